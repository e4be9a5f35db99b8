/- Joined texts: WNormN, RangeBox, WSquares, WNormal, WNormal2, WLongest, WRef02, Limb6, W6a, W6b, Times6, W6c, W6d, W6e, W6f, W6g, W6h, W02a, W02c, NumTxt. -/
import Derived.Test.YthihcjgmlbnapaaGreatDoorJ01
import Derived.Test.YthihcjgmlbnapaaGreatDoorJ09
import Derived.Test.YthihcjgmlbnapaaGreatDoorJ05
import Derived.Test.YthihcjgmlbnapaaGreatDoorJ08
import Derived.Test.YthihcjgmlbnapaaGreatDoorJ02
import Derived.Test.YthihcjgmlbnapaaGreatDoorJ04
import Derived.Test.YthihcjgmlbnapaaGreatDoorJ06
import Derived.Deep.LoopGhost
import Derived.Lib.SlBytesRow
set_option maxRecDepth 100000
set_option linter.unusedVariables false
set_option linter.unusedSimpArgs false
set_option maxHeartbeats 12800000
namespace Go.Proofs.YthihcjgmlbnapaaGreatDoor
open Go.RowKit
theorem wpList_pri {ops:Array Oper} {rest:List Oper} {o:Oper} {a:Act} {Q:Exit→Act→World→Prop} {w:World} (hg:o.guard=none) (p:Operand) (ho:o.op=.load 228 p) (hP:Pri w)
  (hp:a.eval p=.pointer (some ⟨2,0,none⟩)) (h:wpList Tryz.prog ops Q rest (a.put o.dst primesV) w):wpList Tryz.prog ops Q (o::rest) a w :=
 wpList_plain hg fun _ hK=>by
  unfold Oper.wp execOp
  simp only [ho,hp,Instr.loadAt,Instr.sureAddr,Sem.run_bind,Sem.run_pure,Result.andThen_ok,pri_load hP]
  exact hK _ _ h
theorem wpListIn_pri {F:Fence} {n:Nat} {ops:Array Oper} {rest:List Oper} {o:Oper} {a:Act} {Q:Exit→Act→World→Prop} {w:World} (hg:o.guard=none) (p:Operand) (ho:o.op=.load 228 p) (hP:Pri w)
  (hp:a.eval p=.pointer (some ⟨2,0,none⟩)) (h:wpListIn F n Tryz.prog ops Q rest (a.put o.dst primesV) w):wpListIn F n Tryz.prog ops Q (o::rest) a w:=by
 refine wpListIn_plain hg fun K hK=>?_
 unfold Oper.wpIn
 refine ⟨by simp [Oper.about,ho],?_⟩
 rw [Oper.semAt_plain F _ _ (by rw [ho];intro c hc';cases hc')]
 unfold execOp
 simp only [ho,hp,Instr.loadAt,Instr.sureAddr,Sem.run_bind,Sem.run_pure,Result.andThen_ok,pri_load hP]
 exact hK _ _ h
theorem pri_index (i:Nat) (h:i < 25) (W:World):(Instr.index 228 primesV (.int .i64 (i:Int))).run Tryz.prog W=.ok (.string (prS i)) W:=by
 have hu:=Tryz.underlying228
 have h1:(0:Int)≤(i:Int)∧(i:Int) < 25:=by omega
 have hs:=Tryz.sizeOf9
 have ha:=Tryz.isAgg9
 have hg:=primesL_get h
 unfold Instr.index primesV
 simp [go_sem,hu,hs,ha,h1,hg,h,asIntOf,part]
theorem rem_nat (n x:Nat):((n:Int)).tmod (x:Int)=((n % x:Nat):Int):=by rw [Int.tmod_eq_emod_of_nonneg (by omega)];simp
theorem primes_drop {k:Nat} (h:k < 25):primes25.drop k=primes25.getD k 0::primes25.drop (k+1):=by
 have h':k < primes25.length:=h
 rw [List.drop_eq_getElem_cons h',List.getD_eq_getElem?_getD,List.getElem?_eq_getElem h',Option.getD_some]
theorem Of_ok (n d:Nat) (w:World) (hG:Glo w) (hn:n≤1000000000000000000) (hd:d≤1000000000000000000) (hd0:0 < d) :
  Calls Tryz.prog 31 #[.int .i64 (n:Int),.int .i64 (d:Int)] w (RetN (Rat.divInt n d) w):=by
 have HI:=Lib.hid (fun (x:Nat) (hx:x≤1000000000000000000) W hG=>itoa_any (x:Int) (by omega) (by omega) W hG)
 have HG:=Lib.hid hG
 have d0:¬ ((d:Int)=0):=by omega
 by_cases h1:d=1
 ·subst h1
  have e:Lib.itoa (n:Int)=ratText (Rat.divInt n (1:Nat)):=by
   rw [show Rat.divInt (n:Int) ((1:Nat):Int)=((n:Int):Rat) from by rw [Rat.divInt_ofNat,Rat.mkRat_one],ratText_int]
  have HE:=Lib.hid e
  clear e hG
  go_enter Tryz.func31,Tryz.ntmps31
  go_wp2_with fail
  refine (HI.out n hn _ (HG.out.below qbl)).mono ?_
  rintro e w1 ⟨r,hr,rfl,hB1⟩
  have HR:=Lib.hid hr
  clear hr
  go_wp2_with fail
  go_ret2
  exact ⟨r,by rw [HR.out,HE.out],rfl,hB1⟩
 ·have d1:¬ ((d:Int)=1):=by omega
  have HN:=Lib.hid (fun (s t:ByteArray) W hG hs ht=>Qnumber_ok (n:Int) (d:Int) s t W hG hs (fit_nat (Nat.lt_of_le_of_lt hn (Nat.lt_of_lt_of_le (by decide:1000000000000000000 < 10 ^ 19) (pow10_le (a:=19) (b:=300) (by decide))))) ht (fit_nat (Nat.lt_of_le_of_lt hd (Nat.lt_of_lt_of_le (by decide:1000000000000000000 < 10 ^ 19) (pow10_le (a:=19) (b:=300) (by decide))))) (by omega))
  clear hG h1 hd0
  go_enter Tryz.func31,Tryz.ntmps31
  go_wp2_with fail
  refine (HI.out n hn _ (HG.out.below qbl)).mono ?_
  rintro e w1 ⟨r,hr,rfl,hB1⟩
  have HR:=Lib.hid hr
  clear hr
  go_wp2_with fail
  refine (HI.out d hd _ (HG.out.below hB1)).mono ?_
  rintro e w2 ⟨s,hs,rfl,hB2⟩
  have hb2:=below_trans' hB1 hB2
  have HS:=Lib.hid hs
  clear hs hB2 hB1
  go_wp2_with fail
  refine (HN.out r s _ (HG.out.below hb2) HR.out HS.out).mono ?_
  rintro e w3 ⟨t,ht,rfl,hB3⟩
  have hb3:=below_trans' hb2 hB3
  have HT:=Lib.hid ht
  clear ht hB3
  go_wp2_with fail
  go_ret2
  exact ⟨t,HT.out,rfl,hb3⟩
theorem sq_lt_bd {c l m:Nat} (h:c * c * l=m) (hl:0 < l) (hm:m < 100000000000000000):c≤1000000000:=by
 refine Nat.le_of_not_lt fun hc=>?_
 have h1:1000000001 * 1000000001≤c * c:=Nat.mul_le_mul hc hc
 have h2:c * c * 1≤c * c * l:=Nat.mul_le_mul (Nat.le_refl _) hl
 omega
def RetNm (q:Rat) (l:List UInt8) (w:World) (e:Ending) (w':World):Prop:=∃ r s:ByteArray,r.data.toList=ratText q∧s.data.toList=l∧e=.returned (.tuple #[.string r,.string s])∧Below w.heap.size w w'
theorem norm_round {p c l m:Nat} (hp:2≤p) (hl:0 < l) (hc:0 < c) (hm:c * c * l=m) (h:l % (p * p)=0):stripped p c l=stripped p (c * p) (l / (p * p))∧(c * p) * (c * p) * (l / (p * p))=m∧0 < l / (p * p)∧l / (p * p) < l∧0 < c * p:=by
 refine ⟨stripped_go hp hl h,?_,div_pos_sq hp hl h,div_lt_sq hp hl,Nat.mul_pos hc (by omega)⟩
 have:=Nat.div_add_mod l (p * p)
 rw [h,Nat.add_zero] at this
 rw [← hm]
 generalize l / (p * p)=q at *
 rw [← this]
 simp [Nat.mul_assoc,Nat.mul_comm,Nat.mul_left_comm]
theorem nativeNormal_ok (n d:Nat) (w:World) (hG:Glo w) (hP:Pri w) (hn0:0 < n) (hd0:0 < d) (hnd:n * d < 100000000000000000) (hd:d≤1000000000000000000) :
  Calls Tryz.prog 104 #[.int .i64 (n:Int),.int .i64 (d:Int)] w (RetNm (Rat.divInt ((normalN (n * d)).1:Nat) d) (Lib.decDigits (normalN (n * d)).2) w):=by
 have hm0:0 < n * d:=Nat.mul_pos hn0 hd0
 have hw1:IntKind.i64.wrap ((n:Int) * (d:Int))=((n * d:Nat):Int):=by rw [← Int.natCast_mul];exact IntWalk.i64_in _ (by omega)
 obtain ⟨R,hR⟩:∃ R,norms primes25 1 (n * d)=R:=⟨_,rfl⟩
 have HN:Hid (norms (primes25.drop 0) 1 (n * d)=R):=Lib.hid hR
 have HV:Hid (normalN (n * d)=squared R):=Lib.hid (by rw [← hR];rfl)
 obtain ⟨V,hV⟩:∃ V,normalN (n * d)=V:=⟨_,rfl⟩
 rw [hV] at HV ⊢
 obtain ⟨m,hm⟩:∃ m,n * d=m:=⟨_,rfl⟩
 rw [hm] at hnd hm0 hw1 HN
 have HG:=Lib.hid hG
 have HP:=Lib.hid hP
 have HRT:=Lib.hid (fun (x:Nat) W (hx:x < 100000000000000000)=>nativeRoot_ok x W hx)
 have HI:=Lib.hid (fun (x:Nat) (hx:x≤1000000000000000000) W hG=>itoa_any (x:Int) (by omega) (by omega) W hG)
 clear hG hP hR hV hm
 go_enter Tryz.func104,Tryz.ntmps104
 go_wp2_with (refine wpList_pri rfl _ rfl HP.out rfl ?_)
 go_loopw [6,7,19] (fun c l i wr=>∃ k a b:Nat,k≤25∧i=.int .i64 k∧c=.int .i64 a∧l=.int .i64 b∧0 < a∧0 < b∧b < 100000000000000000∧Hid (a * a * b=m)∧Hid (norms (primes25.drop k) a b=R)∧Below w.heap.size w wr) (fun _ _ i _=>25 - (intOf i).toNat)
 case atStart=>exact ⟨0,1,m,by omega,rfl,rfl,rfl,by omega,hm0,hnd,Lib.hid (by simp),HN,bw0 _ _⟩
 case round =>
  obtain ⟨k,a,b,hk,rfl,rfl,rfl,ha,hb,hbm,hab,hno,hB⟩:=hrel
  clear hw1 HN
  by_cases hlt:k < 25
  ·have hltI:(k:Int) < 25:=by omega
   have hix:=fun W=>pri_index k hlt W
   obtain ⟨p2,p97⟩:=primes_two hlt
   have HAT:=Lib.hid (fun W=>atoi_any (prS k) W (by
    have h1:(prS k).size=(prS k).data.toList.length:=rfl
    rw [h1,prS_list,Lib.decDigits_length]
    have:=nDigits_le_of_lt (show primes25.getD k 0 < 10 ^ 2 by omega) (by decide)
    omega) (v:=(primes25.getD k 0:Nat)) (by rw [prS_list,← itoa_natCast];exact atoi_itoa (by omega) (by omega)))
   have HNO:Hid (norms (primes25.drop (k+1)) (stripped (primes25.getD k 0) a b).1 (stripped (primes25.getD k 0) a b).2=R):=Lib.hid (by have:=hno.out;rw [primes_drop hlt] at this;exact this)
   generalize primes25.getD k 0=p at *
   generalize prS k=ps at *
   obtain ⟨q,hq⟩:∃ q,p * p=q:=⟨_,rfl⟩
   have hq1:q≤97 * 97:=by rw [← hq];exact Nat.mul_le_mul p97 p97
   have hq0:4≤q:=by rw [← hq];exact Nat.mul_le_mul p2 p2
   have hpp:IntKind.i64.wrap ((p:Int) * (p:Int))=(q:Int):=by rw [← Int.natCast_mul,hq];exact IntWalk.i64_in _ (by omega)
   have hqz:¬ ((q:Int)=0):=by omega
   have HQ:=Lib.hid hq
   obtain ⟨S,hS⟩:∃ S,stripped p a b=S:=⟨_,rfl⟩
   rw [hS] at HNO
   have HS:Hid (stripped p a b=S):=Lib.hid hS
   clear hno hS hq
   go_wp2_with fail
   refine (HAT.out _).mono ?_
   rintro e w1 ⟨rfl,hB1⟩
   have hb1:=below_trans' hB hB1
   clear hB1 HAT hB hix
   go_wp2_with fail
   go_loopw [6,7] (fun c l wr=>∃ x y:Nat,c=.int .i64 x∧l=.int .i64 y∧0 < x∧0 < y∧y < 100000000000000000∧Hid (x * x * y=m)∧Hid (stripped p x y=S)∧Below w.heap.size w wr) (fun _ l _=>(intOf l).toNat)
   case atStart=>exact ⟨a,b,rfl,rfl,ha,hb,hbm,hab,HS,hb1⟩
   case round =>
    clear hb1 hab HS hb hbm ha
    obtain ⟨x,y,rfl,rfl,hx,hy,hym,hxy,hst,hB⟩:=hrel
    have hrem:=rem_nat y q
    have hquo:=quo_nat y q
    by_cases hz:y % q=0
    ·have ⟨r1,r2,r3,r4,r5⟩:=norm_round p2 hy hx hxy.out (by rw [HQ.out];exact hz)
     rw [HQ.out] at r1 r2 r3 r4
     rw [hz] at hrem
     have hx1:x * p≤1000000000:=sq_lt_bd r2 r3 (by have:=hxy.out;have h3:=Nat.mul_le_mul (Nat.mul_le_mul hx hx) (Nat.le_refl y);omega)
     have hxp:IntKind.i64.wrap ((x:Int) * (p:Int))=((x * p:Nat):Int):=by rw [← Int.natCast_mul];exact IntWalk.i64_in _ (by omega)
     have H1:=Lib.hid r1
     have H2:=Lib.hid r2
     generalize y / q=Y at *
     generalize x * p=X at *
     have hwY:IntKind.i64.wrap (Y:Int)=(Y:Int):=IntWalk.i64_in _ (by omega)
     have hw0:IntKind.i64.wrap (0:Int)=0:=by decide
     clear r1 r2 hz hxy
     go_wp2_with fail
     go_quiet (fail)
     go_wp2_with fail
     go_roundw
     case rel=>exact ⟨X,Y,rfl,rfl,r5,r3,by omega,H2,Lib.hid (by rw [← H1.out];exact hst.out),bw2 hB _⟩
     case measure=>simp [intOf];omega
    ·have HE:=Lib.hid (stripped_end (c:=x) hy (show ¬ y % (p * p)=0 by rw [HQ.out];exact hz))
     generalize y % q=z at *
     have hzI:¬ ((z:Int)=0):=by omega
     have hk1:IntKind.i64.wrap ((k:Int)+1)=((k+1:Nat):Int):=IntWalk.i64_in _ (by omega)
     clear hz
     go_wp2_with fail
     go_roundw
     case rel=>exact ⟨k+1,x,y,by omega,rfl,rfl,rfl,hx,hy,hym,hxy,Lib.hid (by
      have h1:=HNO.out
      rw [← hst.out,HE.out] at h1
      exact h1),hB⟩
     case measure=>simp [intOf];omega
  ·have hk25:k=25:=by omega
   subst hk25
   have hRe:(a,b)=R:=hno.out
   subst hRe
   have ha9:=sq_lt_bd hab.out hb hnd
   have hrb:rootN b * rootN b≤b:=(rootN_spec b).1
   have HV2:=HV.out
   unfold squared at HV2
   dsimp only at HV2
   have hab':=hab.out
   have HRB:=Lib.hid (HRT.out b)
   generalize rootN b=r at *
   have hr9:r≤1000000000:=by
    refine Nat.le_of_not_lt fun hc=>?_
    have:=Nat.mul_le_mul hc hc
    omega
   have hrr:IntKind.i64.wrap ((r:Int) * (r:Int))=((r * r:Nat):Int):=by rw [← Int.natCast_mul];exact IntWalk.i64_in _ (by omega)
   clear hno
   by_cases hsq:r * r=b
   ·rw [if_pos hsq] at HV2
    rw [hsq] at hrr
    have hac:a * r≤1000000000:=sq_lt_bd (l:=1) (m:=m) (by rw [← hab',← hsq];simp [Nat.mul_assoc,Nat.mul_comm,Nat.mul_left_comm]) (by omega) hnd
    have har:IntKind.i64.wrap ((a:Int) * (r:Int))=((a * r:Nat):Int):=by rw [← Int.natCast_mul];exact IntWalk.i64_in _ (by omega)
    generalize a * r=A at *
    subst HV2
    have HOF:=Lib.hid (fun W hG=>Of_ok A d W hG (by omega) hd hd0)
    clear hab hab' hsq
    go_wp2_with fail
    refine (HRB.out _ (by omega)).mono ?_
    rintro e w2 ⟨rfl,hB2⟩
    have hb2:=below_trans' hB hB2
    clear hB2
    go_wp2_with fail
    refine (HOF.out _ (HG.out.below hb2)).mono ?_
    rintro e w3 ⟨s,hs,rfl,hB3⟩
    have hb3:=below_trans' hb2 hB3
    have HS:=Lib.hid hs
    clear hs hB3
    go_wp2_with fail
    refine (HI.out 1 (by omega) _ (HG.out.below hb3)).mono ?_
    rintro e w4 ⟨t,ht,rfl,hB4⟩
    have hb4:=below_trans' hb3 hB4
    have HT:=Lib.hid ht
    clear ht hB4
    go_wp2_with fail
    go_ret2
    exact ⟨s,t,HS.out,by rw [HT.out,itoa_natCast],rfl,hb4⟩
   ·rw [if_neg hsq] at HV2
    subst HV2
    have hne:¬ (((r * r:Nat):Int)=(b:Int)):=by omega
    generalize r * r=rr at *
    have HOF:=Lib.hid (fun W hG=>Of_ok a d W hG (by omega) hd hd0)
    clear hab hab' hsq
    go_wp2_with fail
    refine (HRB.out _ (by omega)).mono ?_
    rintro e w2 ⟨rfl,hB2⟩
    have hb2:=below_trans' hB hB2
    clear hB2
    go_wp2_with fail
    refine (HOF.out _ (HG.out.below hb2)).mono ?_
    rintro e w3 ⟨s,hs,rfl,hB3⟩
    have hb3:=below_trans' hb2 hB3
    have HS:=Lib.hid hs
    clear hs hB3
    go_wp2_with fail
    refine (HI.out b (by omega) _ (HG.out.below hb3)).mono ?_
    rintro e w4 ⟨t,ht,rfl,hB4⟩
    have hb4:=below_trans' hb3 hB4
    have HT:=Lib.hid ht
    clear ht hB4
    go_wp2_with fail
    go_ret2
    exact ⟨s,t,HS.out,by rw [HT.out,itoa_natCast],rfl,hb4⟩
end Go.Proofs.YthihcjgmlbnapaaGreatDoor
namespace Go.Proofs.YthihcjgmlbnapaaGreatDoor
open Go.RowKit
variable {F:Fence} {n:Nat} {P:Program}
def SeqRunsB {α:Type} (F:Fence) (n:Nat) (P:Program) (g:Nat) (lb:Array Value) (encs:α→Array Value) (Mv Kp:World→World→Prop) (S Ok:List α→Prop) (w:World):Prop :=
 ∀ (l:Nat) (J:List α→World→Prop) (W:World),Below w.heap.size w W→AbidesFrom W.heap.size J→(∀ s X Y,J s X→Mv X Y→J s Y) →
  (∀ pre x W1,J pre W1→Ok (pre++[x])→YieldAt F (n - 1) P l (encs x) W1 fun e W'=>e=.returned (.bool true)∧J (pre++[x]) W'∧Kp W1 W') →
  J [] W →
  CallsIn F n P g (#[.func (.yield l) #[] #[]]++lb) W fun e W'=>(∃ v,e=.returned v)∧∃ xs,S xs∧J xs W'
def Rec2 (b:Nat) (r:Loop) (W:World):Prop:=W.heap[b+1]?=some (.loop r)∧W.heap[b]?=some (.deferred (some []))
theorem Rec2.keeps {b:Nat} {r:Loop} {W W':World} (h:Rec2 b r W) (hK:KeepsFrom b W W'):Rec2 b r W':=⟨hK.same _ _ (by omega) h.1 rfl,hK.same _ _ (Nat.le_refl _) h.2 rfl⟩
theorem Rec2.put {b:Nat} {r r':Loop} {W:World} (h:Rec2 b r W):Rec2 b r' (W.putObj (b+1) (.loop r')) :=
 ⟨World.putObj_heap_same (Array.getElem?_eq_some_iff.1 h.1).1,(World.putObj_heap_other (by omega)).trans h.2⟩
theorem rangeFunc_runsB {α:Type} {g:Operand} {ps:Array Tmp} {assign body:Code} {Q:Exit→Act→World→Prop} {a:Act} {w:World}
  (hro:F.round=none) (h1:1≤n) {gf:Nat} {lb:Array Value} (hg:a.eval g=.func (.func gf) #[] lb) (hFg:F.fn gf) (eg:∀ args w,(callFunc gf args).run P w=.ok (.enter gf args) w)
  {encs:α→Array Value} {Mv Kp:World→World→Prop} {S Ok:List α→Prop} {w0:World} (hseq:SeqRunsB F (n - 1) P gf lb encs Mv Kp S Ok w0)
  (hKt:∀ {A B C:World},Kp A B→Kp B C→Kp A C) (hKb:∀ (W:World) (l:Nat) (o o':Obj),w.heap.size≤l→W.heap[l]?=some o→o.isCells=false→o.isWalk=false→Kp W (W.putObj l o'))
  (hMv:∀ X Y,Mv X Y→KeepsFrom w.heap.size X Y) (hb0:Below w0.heap.size w0 w) (hps:∀ x,(encs x).size=ps.size)
  (I:List α→World→Prop) (hI:OwnFrom w.heap.size I) (hIM:∀ s X Y,I s X→Mv X Y→I s Y) (h0:I [] w) (a₁:α→Act)
  (hassign:∀ (l:Nat) (x:α) (W:World) (K:Act→World→Prop),K (a₁ x) W →
   assign.wpIn (F.inRound l) (n - 1 - 1) P (Exit.then K (fun _ _ _=>False)) { tmps:=(ps.zip (encs x)).foldl (fun t (p,v)=>t.setIfInBounds p v) a.tmps,defers:=[] } W)
  (hbody:∀ (l:Nat) (pre:List α) (x:α) (W:World),I pre W→Ok (pre++[x])→body.wpIn (F.inRound l) (n - 1 - 1) P (fun e _ W'=>e=.normal∧KeepsFrom w.heap.size W W'∧Kp W W'∧I (pre++[x]) W') (a₁ x) W)
  (hdone:∀ (D:Nat) (xs:List α) (W:World),w.heap.size≤D→S xs→I xs W→W.heap[D]?=some (.deferred (some []))→Q .normal { a with defers:={ target:=.collected D,args:=#[] }::a.defers } W) :
  (Code.rangeFunc g ps assign body).wpIn F n P Q a w:=by
 refine wpIn_rangeFunc fun fn hfn=>?_
 rw [hro]
 obtain ⟨r,hr⟩:∃ r:LoopState→Option Code→Loop,r=fun st pe=>{ state:=st,pending:=pe,fn,tmps:=a.tmps,params:=ps,assign,body,defers:=w.heap.size }:=⟨_,rfl⟩
 have hnw1:Below w.heap.size w ((w.alloc (.deferred (some []))).alloc (.loop (r .ready none))):=((bw0 _ w).alloc (Nat.le_refl _) _).alloc (by simp) _
 have hR0:Rec2 w.heap.size (r .ready none) ((w.alloc (.deferred (some []))).alloc (.loop (r .ready none))):=by
  constructor
  ·have:=World.alloc_heap_new (w.alloc (.deferred (some []))) (.loop (r .ready none))
   rwa [World.size_alloc] at this
  ·exact (Below.heap_alloc _ _ _ (by simp)).trans (World.alloc_heap_new w _)
 have hI1:I [] ((w.alloc (.deferred (some []))).alloc (.loop (r .ready none))):=hI.alloc _ (hI.alloc _ h0)
 have hent:(Instr.enterLoop fn a.tmps ps assign body none).run P w=.ok (w.heap.size+1,[{ target:=.collected w.heap.size,args:=#[] }]) ((w.alloc (.deferred (some []))).alloc (.loop (r .ready none))):=by rw [hr];exact run_enterLoop_outer _ _ _ _ _
 have hsz:w.heap.size≤((w.alloc (.deferred (some []))).alloc (.loop (r .ready none))).heap.size:=hnw1.size
 have hready:∀ pe,(r .ready pe).state=.ready:=by intro pe;rw [hr]
 generalize (w.alloc (.deferred (some []))).alloc (.loop (r .ready none))=W1 at *
 have hpar:∀ st pe,(r st pe).params=ps:=by intro st pe;rw [hr]
 refine ⟨w.heap.size+1,[{ target:=.collected w.heap.size,args:=#[] }],W1,{ target:=.fn (.func gf) lb,args:=#[.func (.yield (w.heap.size+1)) #[] #[]] },W1,gf,
  #[.func (.yield (w.heap.size+1)) #[] #[]]++lb,W1,hent,?_,?_,?_,fun _=>h1,?_⟩
 ·simp only [resolve,hg]
  simp [go_sem]
 ·intro f' hf'
  simp [Target.leads] at hf'
  subst hf'
  exact hFg
 ·simp [invoke,go_sem,eg]
 ·refine (hseq (w.heap.size+1) (fun pre W=>I pre W∧Rec2 w.heap.size (r .ready none) W) W1 (hb0.trans (hnw1.mono hb0.size)) ?_ (fun s X Y h hm=>⟨hIM s X Y h.1 hm,h.2.keeps (hMv X Y hm)⟩) ?_ ⟨hI1,hR0⟩).mono ?_
  ·intro s X Y row h hgr hrow
   have hrow':∀ j,row=some j→w.heap.size≤j∧∃ o:Obj,X.heap[j]?=some o∧o.isCells=false:=fun j e=>by
    obtain ⟨hB,o,ho,hw⟩:=hrow j e
    exact ⟨Nat.le_trans hsz hB,o,ho,Obj.not_cells_of_walk hw⟩
   refine ⟨hI s X Y row h.1 hgr hrow',?_,?_⟩
   ·exact (grownBy_keeps hgr (fun j e=>(hrow j e).2) h.2.1 rfl).trans h.2.1
   ·exact (grownBy_keeps hgr (fun j e=>(hrow j e).2) h.2.2 rfl).trans h.2.2
  ·rintro pre x W ⟨hi,hR⟩ hlen
   have hy:=run_yield (P:=P) (args:=encs x) hR.1 (by rw [hpar];exact hps x)
   have hbeg:=run_beginRound (P:=P) hR.1 (hready none)
   have hRb:Rec2 w.heap.size { r .ready none with state:=.busy } (W.putObj (w.heap.size+1) (.loop { r .ready none with state:=.busy })):=hR.put
   have hKp1:Kp W (W.putObj (w.heap.size+1) (.loop { r .ready none with state:=.busy })):=hKb _ _ _ _ (by omega) hR.1 rfl rfl
   have hIb:I pre (W.putObj (w.heap.size+1) (.loop { r .ready none with state:=.busy })):=hI.putObj _ hi (by omega) hR.1 rfl
   rw [hr] at hy
   refine ⟨fn,_,assign,body,hy,roundIn_of_wpIn hfn (hassign _ x W _ ⟨_,hbeg,?_⟩)⟩
   refine wpIn_mono (hbody _ pre x _ hIb hlen) ?_
   rintro e a3 W3 ⟨rfl,hK3,hKp3,hI3⟩
   have hR3:=hRb.keeps hK3
   have hend:=run_endRound (P:=P) none hR3.1
   have he:({ { r .ready none with state:=.busy } with state:=(if (none:Option Code).isNone then .ready else .done),pending:=none }:Loop)=r .ready none:=by rw [hr];rfl
   rw [he] at hend
   exact ⟨_,_,hend,rfl,⟨hI.putObj _ hI3 (by omega) hR3.1 rfl,hR3.put⟩,hKt (hKt hKp1 hKp3) (hKb _ _ _ _ (by omega) hR3.1 rfl rfl)⟩
  ·rintro e W2 ⟨⟨v,rfl⟩,xs,hS,hi,hR⟩
   have hel:=run_endLoop (P:=P) hR.1 (by rw [hready];simp)
   have hpe:(r .ready none).pending=none:=by rw [hr]
   rw [hpe] at hel
   exact ⟨none,_,hel,hdone _ xs _ (Nat.le_refl _) hS (hI.putObj _ hi (by omega) hR.1 rfl) ((World.putObj_heap_other (by omega)).trans hR.2)⟩
end Go.Proofs.YthihcjgmlbnapaaGreatDoor
namespace Go.Proofs.YthihcjgmlbnapaaGreatDoor
open Go.RowKit Go.Shelf
attribute [local go_sem] Oper.semAt_some
def decS (n:Nat):ByteArray:=⟨(Lib.decDigits n).toArray⟩
theorem decS_list (n:Nat):(decS n).data.toList=Lib.decDigits n:=by simp [decS]
theorem decS_itoa (n:Nat):(decS n).data.toList=Lib.itoa (n:Int):=by rw [decS_list,itoa_natCast]
theorem decS_of {r:ByteArray} {n:Nat} (h:r.data.toList=Lib.decDigits n):r=decS n:=by
 unfold decS
 rw [← h]
theorem decS_nz {n:Nat} (h:0 < n):((decS n).toList == [48])=false:=by
 rw [Lib.toList_data,decS_list]
 have:=dec_ne_zero h
 simpa using this
theorem decS_z:((decS 0).toList == [48])=true:=by
 rw [Lib.toList_data,decS_list,show Lib.decDigits 0=[48] by decide +kernel]
 decide
theorem mulN_ok (x y:Nat) (w:World) (hG:Glo w) (hx:Fit (x:Int)) (hy:Fit (y:Int)) (hxy:Fit ((x * y:Nat):Int)) :
  Calls Tryz.prog 105 #[.string (decS x),.string (decS y)] w (RetB (.string (decS (x * y))) w) :=
 (rootMul_ok (x:Int) (y:Int) _ _ w hG (decS_itoa x) hx (decS_itoa y) hy (by rwa [← Int.natCast_mul])).mono fun e w' ⟨r,hr,he,hB⟩=>by
  rw [← Int.natCast_mul,itoa_natCast] at hr
  rw [decS_of hr] at he
  exact ⟨he,hB⟩
theorem quotN_ok (x y:Nat) (w:World) (hG:Glo w) (hx:Fit (x:Int)) (hy:Fit (y:Int)) (hy0:0 < y) :
  Calls Tryz.prog 160 #[.string (decS x),.string (decS y)] w (RetB (.tuple #[.string (decS (x / y)),.string (decS (x % y))]) w) :=
 (quotient_ok (x:Int) (y:Int) _ _ w hG (decS_itoa x) hx (decS_itoa y) hy (by omega) (by omega)).mono fun e w' ⟨a,b,ha,hb,he,hB⟩=>by
  rw [← Int.natCast_ediv,itoa_natCast] at ha
  rw [← Int.natCast_emod,itoa_natCast] at hb
  rw [decS_of ha,decS_of hb] at he
  exact ⟨he,hB⟩
def encP (e:Nat × Nat):Array Value:=#[.string (decS e.1),.string (decS e.2)]
def afterS (s:Nat × Nat) (ys:List (Nat × Nat)):Nat × Nat:=ys.foldl (fun s e=>(s.1 * e.1,e.2)) s
theorem afterS_snoc (s:Nat × Nat) (ys:List (Nat × Nat)) (e:Nat × Nat):afterS s (ys++[e])=((afterS s ys).1 * e.1,e.2):=by simp [afterS]
def OkS (m:Nat) (ys:List (Nat × Nat)):Prop:=(afterS (1,m) ys).1 * (afterS (1,m) ys).1 * (afterS (1,m) ys).2=m∧0 < (afterS (1,m) ys).1∧0 < (afterS (1,m) ys).2
def MvBox (b:Nat) (X Y:World):Prop:=∃ v,Y=X.setCell ⟨b,0,none⟩ v
theorem MvBox.keeps {b B:Nat} {X Y:World} (h:MvBox b X Y):KeepsFrom B X Y:=by
 obtain ⟨v,rfl⟩:=h
 exact (KeepsOthers.setCell _ _ _).from _
theorem fit_sq {c y m:Nat} (h:c * c * y=m) (hc:0 < c) (hy:0 < y) (hm:Fit (m:Int)):Fit (c:Int)∧Fit (y:Int) :=
 ⟨fit_lt (n:=c) (by rw [← h];exact Nat.le_trans (Nat.le_mul_of_pos_right c hc) (Nat.le_mul_of_pos_right _ hy)) hm,fit_lt (n:=y) (by rw [← h];exact Nat.le_mul_of_pos_left _ (Nat.mul_pos hc hc)) hm⟩
theorem squares_in (m:Nat) (n:Nat) (hn:1≤n) (l b1 B:Nat) (J:List (Nat × Nat)→World→Prop) (hm0:0 < m) (hmf:Fit (m:Int))
  (hY:∀ pre x W,J pre W→OkS m (pre++[x])→YieldAt Fence.wide (n - 1) Tryz.prog l (encP x) W fun e W'=>e=.returned (.bool true)∧J (pre++[x]) W'∧KpB B b1 b1 W W')
  (W:World) (hJ:AbidesFrom W.heap.size J) (hM:∀ s X Y,J s X→MvBox b1 X Y→J s Y) (w0:World) (hG:Glo w0) (hP:Pri w0) (hw0:Below w0.heap.size w0 W) (hB:w0.heap.size≤B) (hb1:w0.heap.size≤b1)
  (c1:Boxed W b1 9 (.string (decS m))) (h0:J [] W) :
  CallsIn Fence.wide n Tryz.prog 159 #[.func (.yield l) #[] #[],.pointer (some ⟨b1,0,none⟩)] W fun e W'=>(∃ v,e=.returned v)∧∃ ys,afterS (1,m) ys=norms primes25 1 m∧J ys W':=by
 have HG:=Lib.hid hG
 have HP:=Lib.hid hP
 have HJ:=Lib.hid hJ
 have HY:=Lib.hid hY
 have HM:=Lib.hid hM
 have HMF:=Lib.hid hmf
 obtain ⟨R,hR⟩:∃ R,norms primes25 1 m=R:=⟨_,rfl⟩
 have HN:Hid (norms (primes25.drop 0) 1 m=R):=Lib.hid hR
 rw [hR]
 have HB1:=Lib.hid c1
 clear hG hP hJ hY hM hmf hR c1
 refine callsIn_of_wp Tryz.func159 rfl trivial ?_ rfl
 simp only [Tryz.ntmps159,List.size_toArray,List.length_cons,List.length_nil,Nat.reduceAdd,Nat.reduceSub,Array.replicate_succ,Array.replicate_zero,List.push_toArray,List.append_toArray,List.nil_append,List.cons_append]
 gi_wp2_with (refine wpListIn_pri rfl _ rfl (HP.out.below hw0) rfl ?_)
 gi_loopg [9] 25 (fun g v wr=>∃ (k y:Nat) (ys:List (Nat × Nat)),k≤25∧g=25 - k∧v=.int .i64 k∧0 < y∧Hid True∧Hid ((afterS (1,m) ys).1 * (afterS (1,m) ys).1 * y=m∧(afterS (1,m) ys).2=y∧0 < (afterS (1,m) ys).1)∧Hid (norms (primes25.drop k) (afterS (1,m) ys).1 y=R)∧Hid (J ys wr)∧Hid (Boxed wr b1 9 (.string (decS y)))∧Below w0.heap.size w0 wr)
 case atStart=>exact ⟨0,m,[],by omega,rfl,rfl,hm0,Lib.hid (by simp),Lib.hid (by simp [afterS]),HN,Lib.hid h0,HB1,hw0⟩
 case round =>
  obtain ⟨k,y,ys,hk,rfl,rfl,hy,hlen,haf,hno,hJk,hbx,hBk⟩:=hrel
  clear HN HB1 h0 hw0
  by_cases hlt:k < 25
  ·have hltI:(k:Int) < 25:=by omega
   have hix:=fun W=>pri_index k hlt W
   obtain ⟨p2,p97⟩:=primes_two hlt
   have HNO:Hid (norms (primes25.drop (k+1)) (stripped (primes25.getD k 0) (afterS (1,m) ys).1 y).1 (stripped (primes25.getD k 0) (afterS (1,m) ys).1 y).2=R):=Lib.hid (by have:=hno.out;rw [primes_drop hlt] at this;exact this)
   have hps:prS k=decS (primes25.getD k 0):=rfl
   rw [hps] at hix
   generalize primes25.getD k 0=p at *
   obtain ⟨q,hq⟩:∃ q,p * p=q:=⟨_,rfl⟩
   have hq1:q≤97 * 97:=by rw [← hq];exact Nat.mul_le_mul p97 p97
   have hq0:4≤q:=by rw [← hq];exact Nat.mul_le_mul p2 p2
   have hpq:p≤q:=by rw [← hq];exact Nat.le_mul_self p
   have hqf:Fit (q:Int):=fit_nat (Nat.lt_of_lt_of_le (show q < 10 ^ 10 by omega) (pow10_le (a:=10) (b:=300) (by decide)))
   have HMU:=Lib.hid (fun W hG=>by have h:=mulN_ok p p W hG (fit_lt hpq hqf) (fit_lt hpq hqf) (by rw [hq];exact hqf);rw [hq] at h;exact h)
   have HQU:=Lib.hid (fun (x:Nat) W hG (hx:Fit (x:Int))=>quotN_ok x q W hG hx hqf (by omega))
   have HQ:=Lib.hid hq
   obtain ⟨S,hS⟩:∃ S,stripped p (afterS (1,m) ys).1 y=S:=⟨_,rfl⟩
   rw [hS] at HNO
   have HS:Hid (stripped p (afterS (1,m) ys).1 y=S):=Lib.hid hS
   clear hno hS hq hqf
   gi_wp2
   refine ⟨trivial,?_⟩
   refine (callsIn_wide.2 (HMU.out _ (HG.out.below hBk))).mono ?_
   rintro e w1 ⟨rfl,hB1⟩
   have hB2:=hBk.trans (hB1.mono hBk.size)
   have hJ1:Hid (J ys w1):=Lib.hid (abides_below' HJ.out hJk.out hB1)
   have hbx1:Hid (Boxed w1 b1 9 (.string (decS y))):=Lib.hid (boxed_below hbx.out hB1)
   clear hB1 hBk hJk hbx HMU hix
   gi_wp2
   gi_loopg [6] y (fun g v wr=>∃ (x:Nat) (zs:List (Nat × Nat)),x=g∧0 < x∧Hid True∧Hid ((afterS (1,m) zs).1 * (afterS (1,m) zs).1 * x=m∧(afterS (1,m) zs).2=x∧0 < (afterS (1,m) zs).1)∧Hid (stripped p (afterS (1,m) zs).1 x=S)∧Hid (J zs wr)∧Hid (Boxed wr b1 9 (.string (decS x)))∧Below w0.heap.size w0 wr)
   case atStart=>exact ⟨y,ys,rfl,hy,hlen,haf,HS,hJ1,hbx1,hB2⟩
   case round =>
    obtain ⟨x,zs,rfl,hx,hlz,haz,hst,hJz,hbz,hBz⟩:=hrel
    clear hB2 hJ1 hbx1 HS haf hlen hy
    have hxf:=(fit_sq haz.out.1 haz.out.2.2 hx HMF.out).2
    have HQX:=Lib.hid (fun W hG=>HQU.out x W hG hxf)
    have d1:=hbz.out.cell
    have i1:=hbz.out.frozen
    have z1:=hbz.out.lt
    by_cases hz:x % q=0
    ·obtain ⟨r1,r2,r3,r4,r5⟩:=norm_round p2 hx haz.out.2.2 haz.out.1 (by rw [HQ.out];exact hz)
     rw [HQ.out] at r1 r2 r3 r4
     rw [hz] at HQX
     have hnz:=decS_z
     have hnew:afterS (1,m) (zs++[(p,x / q)])=((afterS (1,m) zs).1 * p,x / q):=afterS_snoc _ _ _
     have HAZ:Hid ((afterS (1,m) (zs++[(p,x / q)])).1 * (afterS (1,m) (zs++[(p,x / q)])).1 * (x / q)=m∧(afterS (1,m) (zs++[(p,x / q)])).2=x / q∧0 < (afterS (1,m) (zs++[(p,x / q)])).1):=Lib.hid (by rw [hnew];exact ⟨r2,rfl,r5⟩)
     have HOK:Hid (OkS m (zs++[(p,x / q)])):=Lib.hid (by unfold OkS;rw [hnew];exact ⟨r2,r5,r3⟩)
     have HST:Hid (stripped p (afterS (1,m) (zs++[(p,x / q)])).1 (x / q)=S):=Lib.hid (by rw [hnew];exact r1.symm.trans hst.out)
     have HL:=hlz
     have HYX:=Lib.hid (fun W h=>HY.out zs (p,x / q) W h HOK.out)
     have HE:Hid (encP (p,x / q)=#[.string (decS p),.string (decS (x / q))]):=Lib.hid rfl
     generalize x / q=X at *
     generalize decS 0=s0 at *
     generalize hsX:decS X=sX at *
     generalize decS x=sx at *
     clear r1 r2 hz haz hst hlz hnew HOK
     gi_wp2
     refine ⟨trivial,?_⟩
     refine (callsIn_wide.2 (HQX.out _ (HG.out.below hBz))).mono ?_
     rintro e w2 ⟨rfl,hB3⟩
     have e1:=(boxed_below hbz.out hB3).cell
     have j1:=(boxed_below hbz.out hB3).frozen
     have y1:=(boxed_below hbz.out hB3).lt
     have hJ2:=Lib.hid (HM.out _ _ (w2.setCell ⟨b1,0,none⟩ (.string sX)) (abides_below' HJ.out hJz.out hB3) ⟨_,rfl⟩)
     have hbx2:=Lib.hid ((boxed_below hbz.out hB3).set (.string sX))
     have hB4:Below w0.heap.size w0 (w2.setCell ⟨b1,0,none⟩ (.string sX)):=bw1 (hBz.trans (hB3.mono hBz.size)) hb1 _
     have d2:=hbx2.out.cell
     clear hB3 d1 i1 z1 hbz hJz hBz HQX
     obtain ⟨fn,tmps,assign,body,hy,hR2⟩:=HYX.out _ hJ2.out
     have HR2:=Lib.hid hR2
     rw [HE.out] at hy
     clear hR2 HE HYX
     gi_wp2
     refine HR2.out.mono ?_
     rintro e W3 ⟨rfl,hJ3,hk3⟩
     have hJ3':=Lib.hid hJ3
     have hbx3:Hid (Boxed W3 b1 9 (.string sX)):=Lib.hid (hk3.2.1.trans hbx2.out)
     have hB5:=hB4.trans (hk3.1.mono hB)
     clear hJ3 hk3 hy HR2 hB4 hbx2 hJ2 d2 e1 j1 y1
     gi_wp2
     gi_roundg X
     case rel=>exact ⟨X,_,rfl,r3,HL,HAZ,HST,hJ3',Lib.hid (by rw [hsX];exact hbx3.out),hB5⟩
     case measure=>omega
    ·have HE:=Lib.hid (stripped_end (c:=(afterS (1,m) zs).1) hx (show ¬ x % (p * p)=0 by rw [HQ.out];exact hz))
     have hnz:=decS_nz (show 0 < x % q by omega)
     have hk1:IntKind.i64.wrap ((k:Int)+1)=((k+1:Nat):Int):=IntWalk.i64_in _ (by omega)
     generalize decS (x % q)=sr at *
     clear hz
     gi_wp2
     refine ⟨trivial,?_⟩
     refine (callsIn_wide.2 (HQX.out _ (HG.out.below hBz))).mono ?_
     rintro e w2 ⟨rfl,hB3⟩
     have hJ2:=Lib.hid (abides_below' HJ.out hJz.out hB3)
     have hbx2:=Lib.hid (boxed_below hbz.out hB3)
     have hB4:=hBz.trans (hB3.mono hBz.size)
     clear hB3 d1 i1 z1 hbz hJz hBz HQX
     gi_wp2
     gi_roundg (25 - (k+1))
     case rel=>exact ⟨k+1,x,zs,by omega,rfl,rfl,hx,hlz,haz,Lib.hid (by
      have h1:=HNO.out
      rw [← hst.out,HE.out] at h1
      exact h1),hJ2,hbx2,hB4⟩
     case measure=>omega
  ·have hk25:k=25:=by omega
   subst hk25
   gi_wp2
   go_end0
   refine ⟨⟨_,rfl⟩,ys,?_,hJk.out⟩
   have h1:=hno.out
   have h2:=haf.out.2.1
   rw [← h1]
   show _=((afterS (1,m) ys).1,y)
   rw [← h2]
theorem squares_runs (m n:Nat) (hn:1≤n) (b1 B:Nat) (hm0:0 < m) (hmf:Fit (m:Int)) (w0 w:World) (hG:Glo w0) (hP:Pri w0) (hw0:Below w0.heap.size w0 w) (hB:w0.heap.size≤B) (hb1:w0.heap.size≤b1)
  (c1:Boxed w b1 9 (.string (decS m))) :
  SeqRunsB Fence.wide n Tryz.prog 159 #[.pointer (some ⟨b1,0,none⟩)] encP (MvBox b1) (KpB B b1 b1) (fun ys=>afterS (1,m) ys=norms primes25 1 m) (OkS m) w:=fun l J W hW hJ hM hY h0 =>
 squares_in m n hn l b1 B J hm0 hmf hY W hJ hM w0 hG hP (hw0.trans (hW.mono hw0.size)) hB hb1 (boxed_below c1 hW) h0
theorem squares_ok (m:Nat) (w:World) :
  Calls Tryz.prog 106 #[.string (decS m)] w (fun e w'=>e=.returned (.func (.func 159) #[] #[.pointer (some ⟨w.heap.size,0,none⟩)])∧w'=w.alloc (.cells #[.string (decS m)] 9)):=by
 generalize decS m=s
 go_enter Tryz.func106,Tryz.ntmps106
 go_wp2_with fail
 go_ret
 exact ⟨rfl,rfl⟩
end Go.Proofs.YthihcjgmlbnapaaGreatDoor
namespace Go.Proofs.YthihcjgmlbnapaaGreatDoor
open Go.RowKit
def normQ (q:Rat):Rat × Nat:=if q.num=0 then (0,1) else (Rat.divInt ((normalN (q.num.toNat * q.den)).1:Nat) (q.den:Nat),(normalN (q.num.toNat * q.den)).2)
def RetNl (A:Rat) (L:Nat) (w:World) (e:Ending) (w':World):Prop:=e=.returned (.tuple #[.string (numS A),.string (decS L),.int .i64 0])∧Below w.heap.size w w'
theorem rootOfN_ok {k:Nat} {q:Rat} (w:World) (hG:Glo w) (hq:Sz k q) (hk:k≤300) (hq0:0≤q.num) :
  Calls Tryz.prog 102 #[.string (numS q)] w (RetB (.agg #[.string (decS q.num.toNat),.string (decS q.den)]) w) :=
 (rootOf1_ok (numS q) w hG (numS_list q) hq hk).mono fun e w' ⟨a,b,ha,hb,he,hB⟩=>by
  have hn:q.num=((q.num.toNat:Nat):Int):=by omega
  rw [hn,itoa_natCast] at ha
  rw [decS_of ha,decS_of hb] at he
  exact ⟨he,hB⟩
theorem one_all {q:Rat} {P:Rat→Prop} (h:P q):∀ k (hk:k < [q].length),P [q][k]:=by
 intro k hk
 obtain rfl:k=0:=by
  simp at hk
  omega
 exact h
theorem rootCheck1_ok (q:Rat) (w:World) (u v:Value) (hG:Glo w) (hu:IsStrs w u ([q].map numS)) (hv:IsStrs w v ([q].map numS)) (hq:Sz 90 q) (hq0:0≤q.num) :
  Calls Tryz.prog 101 #[u,v] w (RetB (.int .i64 0) w) :=
 rootCheck_ok [q] [q] u v w hG hu hv (one_all hq) (one_all (P:=fun x=>0≤x.num) hq0) (by simp) (by simp)
theorem check1_lits (q:Rat) (w:World) (hG:Glo w) (hq:Sz 90 q) (hq0:0≤q.num) :
  Calls Tryz.prog 101 #[.slice (some ⟨w.heap.size,0,none⟩) 1 1,.slice (some ⟨w.heap.size+1,0,none⟩) 1 1] ((w.alloc (.cells #[.string (numS q)] 36)).alloc (.cells #[.string (numS q)] 36))
   (fun e w'=>e=.returned (.int .i64 0)∧Below w.heap.size w w'):=by
 have hB:Below w.heap.size w ((w.alloc (.cells #[.string (numS q)] 36)).alloc (.cells #[.string (numS q)] 36)):=((bw0 _ w).alloc (Nat.le_refl _) _).alloc (by simp) _
 have J1:IsStrs ((w.alloc (.cells #[.string (numS q)] 36)).alloc (.cells #[.string (numS q)] 36)) (.slice (some ⟨w.heap.size,0,none⟩) 1 1) ([q].map numS):=(isStrs_lit1 w q _).below (bw4 (bw0 _ _) _)
 have J2:IsStrs ((w.alloc (.cells #[.string (numS q)] 36)).alloc (.cells #[.string (numS q)] 36)) (.slice (some ⟨w.heap.size+1,0,none⟩) 1 1) ([q].map numS):=by
  have h:=isStrs_lit1 (w.alloc (.cells #[.string (numS q)] 36)) q 36
  rw [World.size_alloc] at h;exact h
 exact (rootCheck1_ok q _ _ _ (hG.below hB) J1 J2 hq hq0).mono fun e w' ⟨he,hb⟩=>⟨he,below_trans' hB hb⟩
theorem Normal_zero (q:Rat) (w:World) (hG:Glo w) (hq:Sz 90 q) (h0:q.num=0) :
  Calls Tryz.prog 56 #[.string (numS q)] w (RetNl 0 1 w):=by
 have HCK:=Lib.hid (fun W hG=>check1_lits q W hG hq (by omega))
 have HOF:=Lib.hid (fun W hG=>rootOfN_ok W hG hq (by decide) (by omega))
 rw [h0] at HOF
 have hz:((decS (Int.toNat 0)).toList == [48])=true:=decS_z
 have HG:=Lib.hid hG
 have e1:(numS 0:ByteArray)=⟨#[48]⟩:=by
  unfold numS;rw [show ratText 0=[48] by decide +kernel]
 have e2:(decS 1:ByteArray)=⟨#[49]⟩:=by
  unfold decS;rw [show Lib.decDigits 1=[49] by decide +kernel]
 have HE:=Lib.hid (And.intro e1 e2)
 clear hG hq h0 e1 e2
 generalize numS q=s at *
 generalize decS (Int.toNat 0)=a at *
 generalize decS q.den=b at *
 go_enter Tryz.func56,Tryz.ntmps56
 go_wp2_with fail
 refine (HCK.out _ HG.out).mono ?_
 rintro e w1 ⟨rfl,hb1⟩
 clear HCK
 go_wp2_with fail
 refine (HOF.out _ (HG.out.below hb1)).mono ?_
 rintro e w2 ⟨rfl,hB2⟩
 have hb2:=below_trans' hb1 hB2
 clear hB2 hb1 HOF
 go_wp2_with fail
 go_ret3
 exact ⟨by rw [HE.out.1,HE.out.2];rfl,qbl⟩
theorem decS_lt {n:Nat}:n < 10 ^ (decS n).size:=pow_le_of_lt (by have:(decS n).size=(decS n).data.toList.length:=rfl;rw [this,decS_list];exact Nat.le_refl _)
theorem decS_size_le {n k:Nat} (h:n < 10 ^ k) (hk:1≤k):(decS n).size≤k:=by
 have:(decS n).size=(decS n).data.toList.length:=rfl
 rw [this,decS_list,Lib.decDigits_length]
 exact nDigits_le_of_lt h hk
theorem Normal_short (q:Rat) (w:World) (hG:Glo w) (hP:Pri w) (hq:Sz 90 q) (h0:0 < q.num) (hs:(decS q.num.toNat).size+(decS q.den).size≤17) :
  Calls Tryz.prog 56 #[.string (numS q)] w (RetNl (normQ q).1 (normQ q).2 w):=by
 have HCK:=Lib.hid (fun W hG=>check1_lits q W hG hq (by omega))
 have HOF:=Lib.hid (fun W hG=>rootOfN_ok W hG hq (by decide) (by omega))
 have hn0:0 < q.num.toNat:=by omega
 have hd0:0 < q.den:=q.den_pos
 have e1:(normQ q).1=Rat.divInt ((normalN (q.num.toNat * q.den)).1:Nat) (q.den:Nat):=by unfold normQ;rw [if_neg (by omega)]
 have e2:(normQ q).2=(normalN (q.num.toNat * q.den)).2:=by unfold normQ;rw [if_neg (by omega)]
 rw [e1,e2]
 generalize numS q=sq at *
 generalize q.num.toNat=n at *
 generalize q.den=d at *
 have hnz:=decS_nz hn0
 have hlt:n * d < 10 ^ 17:=by
  refine Nat.lt_of_lt_of_le (Nat.mul_lt_mul_of_lt_of_le (decS_lt (n:=n)) (Nat.le_of_lt (decS_lt (n:=d))) (Nat.pow_pos (by decide))) ?_
  rw [← Nat.pow_add]
  exact Nat.pow_le_pow_right (by decide) hs
 have hd17:d≤1000000000000000000:=by
  have h1:1 * d≤n * d:=Nat.mul_le_mul hn0 (Nat.le_refl _)
  omega
 have HN:=Lib.hid (native_ok n (decS n) · (decS_list n) (by omega))
 have HD:=Lib.hid (native_ok d (decS d) · (decS_list d) (by omega))
 have HNN:=Lib.hid (fun W hG hP=>nativeNormal_ok n d W hG hP hn0 hd0 (by omega) hd17)
 have HG:=Lib.hid hG
 have HP:=Lib.hid hP
 have hle:((decS n).size:Int)+((decS d).size:Int)≤17:=by omega
 have hw:IntKind.i64.wrap (((decS n).size:Int)+((decS d).size:Int))=((decS n).size:Int)+((decS d).size:Int):=IntWalk.i64_in _ (by omega)
 obtain ⟨A,hA⟩:∃ A,Rat.divInt ((normalN (n * d)).1:Nat) (d:Nat)=A:=⟨_,rfl⟩
 obtain ⟨L,hL⟩:∃ L,(normalN (n * d)).2=L:=⟨_,rfl⟩
 rw [hA,hL] at HNN ⊢
 generalize decS n=a at *
 generalize decS d=b at *
 clear hG hP hq h0 e1 e2 hs hn0 hd0 hlt hd17 hA hL
 go_enter Tryz.func56,Tryz.ntmps56
 go_wp2_with fail
 refine (HCK.out _ HG.out).mono ?_
 rintro e w1 ⟨rfl,hb1⟩
 clear HCK
 go_wp2_with fail
 refine (HOF.out _ (HG.out.below hb1)).mono ?_
 rintro e w2 ⟨rfl,hB2⟩
 have hb2:=below_trans' hb1 hB2
 have hb2':=bw4 hb2 (.cells #[.string a,.string b] 176)
 clear hB2 hb1 HOF
 go_wp2_with fail
 refine (HN.out _).mono ?_
 rintro e w3 ⟨rfl,hB3⟩
 have hb3:Below w.heap.size w w3:=qbl
 have c1:w3.cell? ⟨w2.heap.size,1,none⟩=some (.string b):=keep hB3 (by simp [go_sem])
 clear hB3 hb2' HN
 go_wp2_with fail
 refine (HD.out _).mono ?_
 rintro e w4 ⟨rfl,hB4⟩
 have hb4:=below_trans' hb3 hB4
 clear hB4 HD c1 hb3
 go_wp2_with fail
 refine (HNN.out _ (HG.out.below hb4) (HP.out.below hb4)).mono ?_
 rintro e w5 ⟨r,t,hr,ht,rfl,hB5⟩
 have hb5:=below_trans' hb4 hB5
 have HRR:=Lib.hid (And.intro (numS_of hr) (decS_of ht))
 clear hr ht hB5
 go_wp2_with fail
 go_ret3
 exact ⟨by rw [← HRR.out.1,← HRR.out.2];rfl,hb5⟩
end Go.Proofs.YthihcjgmlbnapaaGreatDoor
namespace Go.Proofs.YthihcjgmlbnapaaGreatDoor
open Go.RowKit Go.Shelf
attribute [local go_sem] Oper.semAt_some
def BoxP (W:World) (b:Nat) (x y:Value):Prop:=W.heap[b]?=some (.cells #[x,y] 176 (0,0))
theorem BoxP.lt {W:World} {b:Nat} {x y:Value} (h:BoxP W b x y):b < W.heap.size:=(Array.getElem?_eq_some_iff.1 h).1
theorem BoxP.below {w w':World} {b:Nat} {x y:Value} (h:BoxP w b x y) (hB:Below w.heap.size w w'):BoxP w' b x y:=(hB.block b h.lt).trans h
theorem BoxP.c0 {W:World} {b:Nat} {x y:Value} (h:BoxP W b x y):W.cell? ⟨b,0,none⟩=some x:=by simp only [World.cell?,show W.heap[b]?=_ from h];rfl
theorem BoxP.c1 {W:World} {b:Nat} {x y:Value} (h:BoxP W b x y):W.cell? ⟨b,1,none⟩=some y:=by simp only [World.cell?,show W.heap[b]?=_ from h];rfl
theorem BoxP.new {X:World} {n:Nat} {x y:Value} (h:X.heap.size=n):BoxP (X.alloc (.cells #[x,y] 176)) n x y:=by subst h;exact World.alloc_heap_new _ _
theorem BoxP.but' {W W':World} {b c:Nat} {x y:Value} (h:BoxP W b x y) (hs:SameBut c W W') (hne:b≠c):BoxP W' b x y:=(hs.block b hne).trans h
theorem exactN_ok (m:Nat) (w:World) (hG:Glo w) (hl:(decS m).size≤300):Calls Tryz.prog 107 #[.string (decS m)] w (RetB (.tuple #[.string (decS (rootN m)),.bool (isSqN m)]) w) :=
 (exact_ok m (decS m) w hG (decS_list m) hl).mono fun e w' ⟨r,hr,he,hB⟩=>by
  rw [decS_of hr] at he
  exact ⟨he,hB⟩
theorem fractionN_ok (c d:Nat) (w:World) (hG:Glo w) (hc:c < 10 ^ 150) (hd:d < 10 ^ 150) (hd0:0 < d):Calls Tryz.prog 108 #[.string (decS c),.string (decS d)] w (RetB (.string (numS (Rat.divInt c d))) w) :=
 (fraction_ok (n:=(c:Int)) (d:=d) (decS c) (decS d) w hG (decS_itoa c) (by simpa using hc) (decS_list d) hd hd0).mono fun e w' ⟨r,hr,he,hB⟩=>by
  rw [← Rat.divInt_eq_div] at hr
  rw [numS_of hr] at he
  exact ⟨he,hB⟩
theorem Normal_long (q:Rat) (w:World) (hG:Glo w) (hP:Pri w) (hq:Sz 90 q) (h0:0 < q.num) (hs:¬ (decS q.num.toNat).size+(decS q.den).size≤17) :
  Calls Tryz.prog 56 #[.string (numS q)] w (RetNl (normQ q).1 (normQ q).2 w):=by
 have HCK:=Lib.hid (fun W hG=>check1_lits q W hG hq (by omega))
 have HOF:=Lib.hid (fun W hG=>rootOfN_ok W hG hq (by decide) (by omega))
 have hn0:0 < q.num.toNat:=by omega
 have hd0:0 < q.den:=q.den_pos
 have hn90:q.num.toNat < 10 ^ 90:=by have h1:=hq.1;rw [← Int.toNat_of_nonneg (show 0≤q.num by omega),Int.natAbs_natCast] at h1;exact h1
 have hd90:q.den < 10 ^ 90:=hq.2
 have e1:(normQ q).1=Rat.divInt ((normalN (q.num.toNat * q.den)).1:Nat) (q.den:Nat):=by unfold normQ;rw [if_neg (by omega)]
 have e2:(normQ q).2=(normalN (q.num.toNat * q.den)).2:=by unfold normQ;rw [if_neg (by omega)]
 rw [e1,e2]
 generalize numS q=sq at *
 generalize q.num.toNat=n at *
 generalize q.den=d at *
 have hnz:=decS_nz hn0
 have hlt:n * d < 10 ^ 180:=by
  refine Nat.lt_of_lt_of_le (Nat.mul_lt_mul_of_lt_of_le hn90 (Nat.le_of_lt hd90) (Nat.pow_pos (by decide))) ?_
  rw [← Nat.pow_add]
  exact Nat.le_refl _
 have hm0:0 < n * d:=Nat.mul_pos hn0 hd0
 have hmf:Fit ((n * d:Nat):Int):=fit_nat (Nat.lt_of_lt_of_le hlt (pow10_le (a:=180) (b:=300) (by decide)))
 have HMU:=Lib.hid (fun W hG=>mulN_ok n d W hG (fit_lt (Nat.le_mul_of_pos_right n hd0) hmf) (fit_lt (Nat.le_mul_of_pos_left d hn0) hmf) hmf)
 have ha1:(decS n).size≤90:=decS_size_le hn90 (by decide)
 have hb1:(decS d).size≤90:=decS_size_le hd90 (by decide)
 have hle:decide (((decS n).size:Int)+((decS d).size:Int)≤17)=false:=by rw [decide_eq_false_iff_not];omega
 have hw:IntKind.i64.wrap (((decS n).size:Int)+((decS d).size:Int))=((decS n).size:Int)+((decS d).size:Int):=IntWalk.i64_in _ (by omega)
 have HD90:=Lib.hid (And.intro hd0 hd90)
 have HSD:Hid (decS d=decS d):=Lib.hid rfl
 obtain ⟨m,hm⟩:∃ m,n * d=m:=⟨_,rfl⟩
 rw [hm] at hlt hm0 hmf HMU ⊢
 have HSQ:=Lib.hid (squares_ok m)
 have HLT:=Lib.hid hlt
 have HMF:=Lib.hid hmf
 have HG:=Lib.hid hG
 have HP:=Lib.hid hP
 obtain ⟨a,ha⟩:∃ a,decS n=a:=⟨_,rfl⟩
 obtain ⟨b,hb⟩:∃ b,decS d=b:=⟨_,rfl⟩
 obtain ⟨sm,hsm⟩:∃ sm,decS m=sm:=⟨_,rfl⟩
 rw [ha,hb] at HOF hle hw HMU
 rw [ha] at hnz ha1
 rw [hb] at hb1
 rw [hsm] at HMU HSQ
 have HB:=Lib.hid hb
 have HSM:=Lib.hid hsm
 clear hG hP hq h0 e1 e2 hs hn0 hd0 hlt hmf hm ha hb hsm HSD hn90 hd90
 refine (callsIn_wide (n:=5)).1 ?_
 refine callsIn_of_wp_marks Tryz.func56 rfl trivial ?_ rfl
 simp only [Tryz.ntmps56,List.size_toArray,List.length_cons,List.length_nil,Nat.reduceAdd,Nat.reduceSub,Array.replicate_succ,Array.replicate_zero,List.push_toArray,List.append_toArray,List.nil_append,List.cons_append]
 gi_wp2
 refine ⟨trivial,?_⟩
 refine (callsIn_wide.2 (HCK.out _ HG.out)).mono ?_
 rintro e w1 ⟨rfl,hb1⟩
 clear HCK
 gi_wp2
 refine ⟨trivial,?_⟩
 refine (callsIn_wide.2 (HOF.out _ (HG.out.below hb1))).mono ?_
 rintro e w2 ⟨rfl,hB2⟩
 have hb2:=below_trans' hb1 hB2
 clear hB2 hb1 HOF
 gi_wp2
 refine ⟨trivial,?_⟩
 refine (callsIn_wide.2 (HMU.out _ (HG.out.below (bw4 hb2 _)))).mono ?_
 rintro e w3 ⟨rfl,hB3⟩
 have hb3:=below_trans' (bw4 hb2 _) hB3
 have x6:BoxP w3 w2.heap.size (.string a) (.string b):=BoxP.below (BoxP.new rfl) hB3
 clear hB3 HMU
 gi_wp2
 refine ⟨trivial,?_⟩
 refine (callsIn_wide.2 (HSQ.out _)).mono ?_
 rintro e w4 ⟨rfl,rfl⟩
 gi_wp2
 have y6:BoxP (((w3.alloc (.cells #[.string ⟨#[49]⟩] 9)).alloc (.cells #[.string sm] 9)).alloc (.cells #[.string sm] 9)) w2.heap.size (.string a) (.string b):=x6.below (((bw0 _ w3).alloc (Nat.le_refl _) _).alloc (by simp) _ |>.alloc (by simp;omega) _)
 have y13:Boxed (((w3.alloc (.cells #[.string ⟨#[49]⟩] 9)).alloc (.cells #[.string sm] 9)).alloc (.cells #[.string sm] 9)) w3.heap.size 9 (.string ⟨#[49]⟩):=((boxed_new' rfl).alloc _).alloc _
 have y14:Boxed (((w3.alloc (.cells #[.string ⟨#[49]⟩] 9)).alloc (.cells #[.string sm] 9)).alloc (.cells #[.string sm] 9)) (w3.heap.size+1) 9 (.string sm):=(boxed_new' (by simp)).alloc _
 have y15:Boxed (((w3.alloc (.cells #[.string ⟨#[49]⟩] 9)).alloc (.cells #[.string sm] 9)).alloc (.cells #[.string sm] 9)) (w3.heap.size+2) 9 (.string sm):=boxed_new' (by simp)
 have hbW:Below w.heap.size w (((w3.alloc (.cells #[.string ⟨#[49]⟩] 9)).alloc (.cells #[.string sm] 9)).alloc (.cells #[.string sm] 9)):=hb3.trans ((((bw0 _ w3).alloc (Nat.le_refl _) _).alloc (by simp) _ |>.alloc (by simp;omega) _).mono hb3.size)
 have hsz:(((w3.alloc (.cells #[.string ⟨#[49]⟩] 9)).alloc (.cells #[.string sm] 9)).alloc (.cells #[.string sm] 9)).heap.size=w3.heap.size+3:=by simp
 have h32:=x6.lt
 have hw3:=hb3.size
 have hw2:=hb2.size
 generalize (((w3.alloc (.cells #[.string ⟨#[49]⟩] 9)).alloc (.cells #[.string sm] 9)).alloc (.cells #[.string sm] 9))=V at *
 rw [← HSM.out] at y15
 have one_s:(⟨#[49]⟩:ByteArray)=decS 1:=by unfold decS;rw [show Lib.decDigits 1=[49] by decide +kernel]
 refine rangeFunc_runsB (a₁:=?a1) rfl (by omega) (gf:=159) (lb:=#[.pointer (some ⟨w3.heap.size+2,0,none⟩)]) rfl trivial (enters_of Tryz.func159 (by kernel_rfl) rfl)
  (squares_runs m _ (by omega) (w3.heap.size+2) w.heap.size hm0 HMF.out w V HG.out HP.out hbW (Nat.le_refl _) (by omega) y15) KpB.t (KpB.b (by omega) (by omega) (by omega)) (fun X Y h=>h.keeps) (bw0 _ _) (fun _=>rfl)
  (fun pre W=>((BoxP W w2.heap.size (.string a) (.string b)∧Boxed W w3.heap.size 9 (.string (decS (afterS (1,m) pre).1)))∧Boxed W (w3.heap.size+1) 9 (.string (decS (afterS (1,m) pre).2)))∧(Below w.heap.size w W∧w3.heap.size+3≤W.heap.size))
  (OwnFrom.and (OwnFrom.and (OwnFrom.and (cells_own rfl) (Own.from (boxed_own _ _ _) _)) (Own.from (boxed_own _ _ _) _)) (OwnFrom.and (ownFrom_below (Nat.le_refl _) (by omega)) (fun s A B row hs hg hr=>Nat.le_trans hs hg.size)))
  (fun pre X Y h hm=>by
   obtain ⟨v,rfl⟩:=hm
   obtain ⟨⟨⟨x6,x13⟩,x14⟩,hB,hz⟩:=h
   have hS:=sameBut_setCell X (w3.heap.size+2) 0 v
   exact ⟨⟨⟨x6.but' hS (by omega),Boxed.but x13 hS (by omega)⟩,Boxed.but x14 hS (by omega)⟩,hS.below hB (by omega),by rw [hS.size];exact hz⟩)
  ⟨⟨⟨y6,by rw [one_s] at y13;exact y13⟩,by rw [← HSM.out] at y14;exact y14⟩,hbW,by omega⟩ ?assign ?body ?done
 case assign =>
  intro l x W K hK
  unfold encP
  gi_wp2
  exact hK
 case body =>
  rintro l pre x W ⟨⟨⟨x6,x13⟩,x14⟩,hB,hz⟩ hok
  unfold OkS at hok
  rw [afterS_snoc] at hok
  obtain ⟨k1,k2,k3⟩:=hok
  obtain ⟨x1,x2⟩:=x
  dsimp only at k1 k2 k3
  have HAS:=Lib.hid (afterS_snoc (1,m) pre (x1,x2))
  obtain ⟨c,hc⟩:∃ c,(afterS (1,m) pre).1=c:=⟨_,rfl⟩
  obtain ⟨u,hu⟩:∃ u,(afterS (1,m) pre).2=u:=⟨_,rfl⟩
  rw [hc] at x13 k1 k2 HAS
  rw [hu] at x14
  have hx1:0 < x1:=Nat.pos_of_mul_pos_left k2
  have hc1:0 < c:=Nat.pos_of_mul_pos_right k2
  have hf:=(fit_sq k1 k2 k3 HMF.out).1
  have HML:=Lib.hid (fun W hG=>mulN_ok c x1 W hG (fit_lt (Nat.le_mul_of_pos_right c hx1) hf) (fit_lt (Nat.le_mul_of_pos_left x1 hc1) hf) hf)
  have d13:=x13.cell
  have f13:=x13.frozen
  have d14:=x14.cell
  have f14:=x14.frozen
  have z13:=x13.lt
  have z14:=x14.lt
  clear k1 k2 k3 hx1 hc1 hf y6 y13 y14 y15
  generalize decS x1=s1 at *
  gi_wp2
  refine ⟨trivial,?_⟩
  refine (callsIn_wide.2 (HML.out _ (HG.out.below hB))).mono ?_
  rintro e w4 ⟨rfl,hB4⟩
  have b13:=boxed_below x13 hB4
  have b14:=boxed_below x14 hB4
  have b6:=x6.below hB4
  have hB5:=hB.trans (hB4.mono hB.size)
  have hz4:=hB4.size
  have hkB:=hB4
  have e13:=b13.cell
  have g13:=b13.frozen
  have e14:=b14.cell
  have g14:=b14.frozen
  have v13:=b13.lt
  have v14:=b14.lt
  clear hB4 x13 x14 x6 d13 f13 d14 f14 z13 z14 HML
  obtain ⟨sc,hsc⟩:∃ sc,decS (c * x1)=sc:=⟨_,rfl⟩
  obtain ⟨s2,hs2⟩:∃ s2,decS x2=s2:=⟨_,rfl⟩
  rw [hsc,hs2]
  have HSC:=Lib.hid (And.intro hsc hs2)
  clear hsc hs2
  gi_wp2
  have hS1:=sameBut_setCell w4 w3.heap.size 0 (.string sc)
  have q13:=Boxed.set (.string sc) b13
  have q14:=Boxed.but b14 hS1 (by omega)
  have q6:=b6.but' hS1 (by omega)
  have hS2:=sameBut_setCell (w4.setCell ⟨w3.heap.size,0,none⟩ (.string sc)) (w3.heap.size+1) 0 (.string s2)
  have r13:=Boxed.but q13 hS2 (by omega)
  have r14:=Boxed.set (.string s2) q14
  have r6:=q6.but' hS2 (by omega)
  have hW1:Below w.heap.size W ((w4.setCell ⟨w3.heap.size,0,none⟩ (.string sc)).setCell ⟨w3.heap.size+1,0,none⟩ (.string s2)):=hS2.below (hS1.below (hkB.mono hB.size) (by omega)) (by omega)
  have hsz2:((w4.setCell ⟨w3.heap.size,0,none⟩ (.string sc)).setCell ⟨w3.heap.size+1,0,none⟩ (.string s2)).heap.size=w4.heap.size:=by rw [hS2.size,hS1.size]
  refine ⟨(keepsFrom_below hkB).trans ((keepsFrom_but hS1 (by omega)).trans (keepsFrom_but hS2 (by omega))),⟨hW1,?_,?_⟩,⟨⟨⟨r6,?_⟩,?_⟩,hS2.below (hS1.below hB5 (by omega)) (by omega),by omega⟩⟩
  ·exact (hS2.block _ (by omega)).trans ((hS1.block _ (by omega)).trans (hkB.block _ (by omega)))
  ·exact (hS2.block _ (by omega)).trans ((hS1.block _ (by omega)).trans (hkB.block _ (by omega)))
  ·rw [HAS.out,HSC.out.1];exact r13
  ·rw [HAS.out,HSC.out.2];exact r14
 case done =>
  rintro D ys W hD hR ⟨⟨⟨x6,x13⟩,x14⟩,hB,hz⟩ hK
  rw [hR] at x13 x14
  obtain ⟨n1,n2,n3,n4⟩:=norms_inv (c:=1) primes25_two hm0 (by decide)
  have hv:normalN m=squared (norms primes25 1 m):=rfl
  obtain ⟨c,hc⟩:∃ c,(norms primes25 1 m).1=c:=⟨_,rfl⟩
  obtain ⟨u,hu⟩:∃ u,(norms primes25 1 m).2=u:=⟨_,rfl⟩
  have hvr:norms primes25 1 m=(c,u):=by rw [← hc,← hu]
  rw [hvr] at hv x13 x14 n1 n2 n3 n4
  unfold squared at hv
  dsimp only at hv x13 x14 n1 n2 n3 n4
  simp only [Nat.one_mul] at n1
  have hf:=fit_sq n1 n2 n3 HMF.out
  have hc90:∀ x l:Nat,x * x * l=m→0 < l→x < 10 ^ 90:=fun x l hx hl=>by
   refine Nat.lt_of_not_le fun hge=>?_
   have h1:10 ^ 90 * 10 ^ 90≤x * x:=Nat.mul_le_mul hge hge
   have h2:x * x * 1≤x * x * l:=Nat.mul_le_mul (Nat.le_refl _) hl
   have h3:=HLT.out
   rw [hx,Nat.mul_one] at h2
   have h4:(10:Nat) ^ 180=10 ^ 90 * 10 ^ 90:=by rw [← Nat.pow_add]
   rw [h4] at h3
   exact absurd (Nat.le_trans h1 h2) (Nat.not_le.2 h3)
  have hpp:(10:Nat) ^ 90 < 10 ^ 150:=Nat.pow_lt_pow_right (by decide) (by decide)
  have HFR0:=Lib.hid (fun (x:Nat) (hx:x < 10 ^ 90) W hG=>fractionN_ok x d W hG (Nat.lt_trans hx hpp) (Nat.lt_trans HD90.out.2 hpp) HD90.out.1)
  rw [HB.out] at HFR0
  have HEX:=Lib.hid (fun W hG=>exactN_ok u W hG (Nat.le_trans (decS_size_le (Nat.lt_of_le_of_lt n4 HLT.out) (by decide)) (by decide)))
  have hrs:=(rootN_spec u).1
  obtain ⟨sq',hsq⟩:∃ x,isSqN u=x:=⟨_,rfl⟩
  have hsq':=hsq
  unfold isSqN at hsq'
  rw [hsq] at HEX
  clear hpp y6 y13 y14 y15 hR hvr hc hu ys
  cases sq'
  ·-- no square
   have hns:¬ rootN u * rootN u=u:=of_decide_eq_false hsq'
   rw [if_neg hns] at hv
   have HFR:=Lib.hid (HFR0.out c (hc90 c u n1 n3))
   obtain ⟨sc,hsc⟩:∃ s,decS c=s:=⟨_,rfl⟩
   obtain ⟨sl,hsl⟩:∃ s,decS u=s:=⟨_,rfl⟩
   obtain ⟨sr,hsr⟩:∃ s,numS (Rat.divInt (c:Nat) (d:Nat))=s:=⟨_,rfl⟩
   rw [hsc] at x13 HFR
   rw [hsl] at x14 HEX
   rw [hsr] at HFR
   have HSR:=Lib.hid (show numS (Rat.divInt ((normalN m).1:Nat) (d:Nat))=sr∧decS (normalN m).2=sl from by rw [hv];exact ⟨hsr,hsl⟩)
   clear HFR0 hc90 hns hsq' hsq hv n1 n2 n3 n4 hf hrs hsc hsl hsr
   have d14:=x14.cell
   generalize decS (rootN u)=sro at *
   gi_wp2
   refine ⟨trivial,?_⟩
   refine (callsIn_wide.2 (HEX.out _ (HG.out.below hB))).mono ?_
   rintro e w5 ⟨rfl,hB5⟩
   have r13:=boxed_below x13 hB5
   have r14:=boxed_below x14 hB5
   have r6:=x6.below hB5
   have hBf:=hB.trans (hB5.mono hB.size)
   have hDf:=(hB5.block _ (Array.getElem?_eq_some_iff.1 hK).1).trans hK
   clear hB5 x13 x14 x6 hB hK d14 HEX
   gi_wp2
   have hR:(Boxed w5.drew w3.heap.size 9 (.string sc)∧Boxed w5.drew (w3.heap.size+1) 9 (.string sl)∧BoxP w5.drew w2.heap.size (.string a) (.string b))∧(Below w.heap.size w w5.drew∧w5.drew.heap[D]?=some (.deferred (some []))):=⟨⟨boxed_below r13 (bw0 _ _).drew,boxed_below r14 (bw0 _ _).drew,r6.below (bw0 _ _).drew⟩,hBf.trans ((bw0 _ _).drew.mono hBf.size),((bw0 _ _).drew.block _ (Array.getElem?_eq_some_iff.1 hDf).1).trans hDf⟩
   refine region_J (L:=[]) (R:=(fun w'=>(Boxed w' w3.heap.size 9 (.string sc)∧Boxed w' (w3.heap.size+1) 9 (.string sl)∧BoxP w' w2.heap.size (.string a) (.string b))∧(Below w.heap.size w w'∧w'.heap[D]?=some (.deferred (some []))))) 8 #[false,false,false,false,false,false,false,false] (by kernel_rfl) (by kernel_rfl) (by kernel_rfl) (fun Q' hQ' hN=>?_)
   generalize w5.drew=wz at *
   refine tI 82 0 (hy:=by intro wq hRq;have e0:=hRq.1.1.cell;have e1:=hRq.1.2.1.cell;have e2:=hRq.1.2.2.c1;go_simp;(try with_reducible rfl)) ?_
   refine tI 83 1 (hy:=by intro wq hRq;have e0:=hRq.1.1.cell;have e1:=hRq.1.2.1.cell;have e2:=hRq.1.2.2.c1;go_simp;(try with_reducible rfl)) ?_
   refine tI 84 2 (hy:=by intro wq hRq;have e0:=hRq.1.1.cell;have e1:=hRq.1.2.1.cell;have e2:=hRq.1.2.2.c1;go_simp;(try with_reducible rfl)) ?_
   refine tI 86 4 (hy:=by intro wq hRq;have e0:=hRq.1.1.cell;have e1:=hRq.1.2.1.cell;have e2:=hRq.1.2.2.c1;go_simp;(try with_reducible rfl)) ?_
   refine wpAnyI_ready (rs:=[3]) (by kernel_rfl) (by simp) ?_
   refine stepRI (i:=3) rfl (by kernel_rfl) (fun K hK=>?_) (AllReadyI.nil)
   go_simp
   refine ⟨trivial,?_⟩
   refine (callsIn_wide.2 (HFR.out _ (HG.out.below hR.2.1))).mono ?_
   rintro e wn ⟨rfl,hB'⟩
   have hR:(Boxed wn w3.heap.size 9 (.string sc)∧Boxed wn (w3.heap.size+1) 9 (.string sl)∧BoxP wn w2.heap.size (.string a) (.string b))∧(Below w.heap.size w wn∧wn.heap[D]?=some (.deferred (some []))):=⟨⟨boxed_below hR.1.1 hB',boxed_below hR.1.2.1 hB',hR.1.2.2.below hB'⟩,hR.2.1.trans (hB'.mono hR.2.1.size),(hB'.block _ (Array.getElem?_eq_some_iff.1 hR.2.2).1).trans hR.2.2⟩
   refine hK.out _ _ hR ?_
   clear hK K
   (try simp only [Act.put,bw7,bw8,bw9])
   refine tI 2 5 ?_
   refine tI 3 6 ?_
   refine tI 4 7 ?_
   refine wpAnyI_done (by kernel_rfl) ?_ _
   refine hN.out _ _ ?_
   gi_wp2
   refine leaves_marks w.heap.size [D] _ (by simp) (fun E hE=>?_) (fun W' hB' hcc=>?_)
   ·obtain rfl:E=D:=by simpa using hE
    exact ⟨by omega,hR.2.2⟩
   ·refine ⟨.tuple #[.string sr,.string sl,.int .i64 0],by simp [results,Tryz.results56,go_sem],?_,hR.2.1.trans hB'⟩
    rw [← HSR.out.1,← HSR.out.2]
  ·-- a square
   have hns:rootN u * rootN u=u:=of_decide_eq_true hsq'
   rw [if_pos hns] at hv
   obtain ⟨ru,hru⟩:∃ x,rootN u=x:=⟨_,rfl⟩
   rw [hru] at hns hv HEX
   have hru0:0 < ru:=by
    rcases Nat.eq_zero_or_pos ru with h|h
    ·rw [h] at hns;omega
    ·exact h
   have hcr:(c * ru) * (c * ru) * 1=m:=by rw [← n1,← hns];simp [Nat.mul_assoc,Nat.mul_comm,Nat.mul_left_comm]
   have hfr:=(fit_sq hcr (Nat.mul_pos n2 hru0) (by decide) HMF.out).1
   have HML:=Lib.hid (fun W hG=>mulN_ok c ru W hG hf.1 (fit_lt (Nat.le_mul_of_pos_left ru n2) hfr) hfr)
   have HFR:=Lib.hid (HFR0.out (c * ru) (hc90 _ 1 hcr (by decide)))
   obtain ⟨sc0,hsc0⟩:∃ s,decS c=s:=⟨_,rfl⟩
   obtain ⟨sc,hsc⟩:∃ s,decS (c * ru)=s:=⟨_,rfl⟩
   obtain ⟨su,hsu⟩:∃ s,decS u=s:=⟨_,rfl⟩
   obtain ⟨sl,hsl⟩:∃ s,decS 1=s:=⟨_,rfl⟩
   obtain ⟨sro,hsro⟩:∃ s,decS ru=s:=⟨_,rfl⟩
   obtain ⟨sr,hsr⟩:∃ s,numS (Rat.divInt ((c * ru:Nat):Int) (d:Nat))=s:=⟨_,rfl⟩
   rw [hsc0] at x13 HML
   rw [hsc] at HFR HML
   rw [hsu] at x14 HEX
   rw [hsr] at HFR
   rw [hsro] at HEX HML
   rw [hsl] at one_s
   have HSR:=Lib.hid (show numS (Rat.divInt ((normalN m).1:Nat) (d:Nat))=sr∧decS (normalN m).2=sl from by rw [hv];exact ⟨hsr,hsl⟩)
   have HONE:=Lib.hid one_s
   clear HFR0 hc90 hns hsq' hsq hv n1 n2 n3 n4 hf hrs hsc hsl hsr hsc0 hsu hsro hru hru0 hcr hfr one_s
   have d14:=x14.cell
   gi_wp2
   refine ⟨trivial,?_⟩
   refine (callsIn_wide.2 (HEX.out _ (HG.out.below hB))).mono ?_
   rintro e w5 ⟨rfl,hB5⟩
   have r13:=boxed_below x13 hB5
   have r14:=boxed_below x14 hB5
   have r6:=x6.below hB5
   have hBf:=hB.trans (hB5.mono hB.size)
   have hDf:=(hB5.block _ (Array.getElem?_eq_some_iff.1 hK).1).trans hK
   have hzf:=hB5.size
   have d13:=r13.cell
   clear hB5 x13 x14 x6 hB hK d14 HEX
   gi_wp2
   refine ⟨trivial,?_⟩
   refine (callsIn_wide.2 (HML.out _ (HG.out.below hBf))).mono ?_
   rintro e w6 ⟨rfl,hB6⟩
   have b13:=boxed_below r13 hB6
   have b14:=boxed_below r14 hB6
   have b6:=r6.below hB6
   have hB7:=hBf.trans (hB6.mono hBf.size)
   have hD7:=(hB6.block _ (Array.getElem?_eq_some_iff.1 hDf).1).trans hDf
   have hzg:=hB6.size
   clear r13 r14 r6 hBf hDf hB6 d13 HML
   have e13:=b13.cell
   have g13:=b13.frozen
   have e14:=b14.cell
   have g14:=b14.frozen
   have v13:=b13.lt
   have v14:=b14.lt
   gi_wp2
   have hS1:=sameBut_setCell w6 w3.heap.size 0 (.string sc)
   have q13:=Boxed.set (.string sc) b13
   have q14:=Boxed.but b14 hS1 (by omega)
   have q6:=b6.but' hS1 (by omega)
   have hS2:=sameBut_setCell (w6.setCell ⟨w3.heap.size,0,none⟩ (.string sc)) (w3.heap.size+1) 0 (.string ⟨#[49]⟩)
   have r13:=Boxed.but q13 hS2 (by omega)
   have r14:=Boxed.set (.string ⟨#[49]⟩) q14
   have r6:=q6.but' hS2 (by omega)
   have hBf:=hS2.below (hS1.below hB7 (by omega)) (by omega:w.heap.size≤w3.heap.size+1)
   have hDf:=(hS2.block D (by omega)).trans ((hS1.block D (by omega)).trans hD7)
   rw [HONE.out] at r14 r13 r6 hBf hDf
   rw [HONE.out]
   clear hS1 hS2 q13 q14 q6 b13 b14 b6 hB7 hD7 e13 g13 e14 g14 v13 v14
   generalize (w6.setCell ⟨w3.heap.size,0,none⟩ (.string sc)).setCell ⟨w3.heap.size+1,0,none⟩ (.string sl)=wf at *
   gi_wp2
   have hR:(Boxed wf.drew w3.heap.size 9 (.string sc)∧Boxed wf.drew (w3.heap.size+1) 9 (.string sl)∧BoxP wf.drew w2.heap.size (.string a) (.string b))∧(Below w.heap.size w wf.drew∧wf.drew.heap[D]?=some (.deferred (some []))):=⟨⟨boxed_below r13 (bw0 _ _).drew,boxed_below r14 (bw0 _ _).drew,r6.below (bw0 _ _).drew⟩,hBf.trans ((bw0 _ _).drew.mono hBf.size),((bw0 _ _).drew.block _ (Array.getElem?_eq_some_iff.1 hDf).1).trans hDf⟩
   refine region_J (L:=[]) (R:=(fun w'=>(Boxed w' w3.heap.size 9 (.string sc)∧Boxed w' (w3.heap.size+1) 9 (.string sl)∧BoxP w' w2.heap.size (.string a) (.string b))∧(Below w.heap.size w w'∧w'.heap[D]?=some (.deferred (some []))))) 8 #[false,false,false,false,false,false,false,false] (by kernel_rfl) (by kernel_rfl) (by kernel_rfl) (fun Q' hQ' hN=>?_)
   generalize wf.drew=wz at *
   refine tI 82 0 (hy:=by intro wq hRq;have e0:=hRq.1.1.cell;have e1:=hRq.1.2.1.cell;have e2:=hRq.1.2.2.c1;go_simp;(try with_reducible rfl)) ?_
   refine tI 83 1 (hy:=by intro wq hRq;have e0:=hRq.1.1.cell;have e1:=hRq.1.2.1.cell;have e2:=hRq.1.2.2.c1;go_simp;(try with_reducible rfl)) ?_
   refine tI 84 2 (hy:=by intro wq hRq;have e0:=hRq.1.1.cell;have e1:=hRq.1.2.1.cell;have e2:=hRq.1.2.2.c1;go_simp;(try with_reducible rfl)) ?_
   refine tI 86 4 (hy:=by intro wq hRq;have e0:=hRq.1.1.cell;have e1:=hRq.1.2.1.cell;have e2:=hRq.1.2.2.c1;go_simp;(try with_reducible rfl)) ?_
   refine wpAnyI_ready (rs:=[3]) (by kernel_rfl) (by simp) ?_
   refine stepRI (i:=3) rfl (by kernel_rfl) (fun K hK=>?_) (AllReadyI.nil)
   go_simp
   refine ⟨trivial,?_⟩
   refine (callsIn_wide.2 (HFR.out _ (HG.out.below hR.2.1))).mono ?_
   rintro e wn ⟨rfl,hB'⟩
   have hR:(Boxed wn w3.heap.size 9 (.string sc)∧Boxed wn (w3.heap.size+1) 9 (.string sl)∧BoxP wn w2.heap.size (.string a) (.string b))∧(Below w.heap.size w wn∧wn.heap[D]?=some (.deferred (some []))):=⟨⟨boxed_below hR.1.1 hB',boxed_below hR.1.2.1 hB',hR.1.2.2.below hB'⟩,hR.2.1.trans (hB'.mono hR.2.1.size),(hB'.block _ (Array.getElem?_eq_some_iff.1 hR.2.2).1).trans hR.2.2⟩
   refine hK.out _ _ hR ?_
   clear hK K
   (try simp only [Act.put,bw7,bw8,bw9])
   refine tI 2 5 ?_
   refine tI 3 6 ?_
   refine tI 4 7 ?_
   refine wpAnyI_done (by kernel_rfl) ?_ _
   refine hN.out _ _ ?_
   gi_wp2
   refine leaves_marks w.heap.size [D] _ (by simp) (fun E hE=>?_) (fun W' hB' hcc=>?_)
   ·obtain rfl:E=D:=by simpa using hE
    exact ⟨by omega,hR.2.2⟩
   ·refine ⟨.tuple #[.string sr,.string sl,.int .i64 0],by simp [results,Tryz.results56,go_sem],?_,hR.2.1.trans hB'⟩
    rw [← HSR.out.1,← HSR.out.2]
theorem Normal_ok (q:Rat) (w:World) (hG:Glo w) (hP:Pri w) (hq:Sz 90 q) (hq0:0≤q.num) :
  Calls Tryz.prog 56 #[.string (numS q)] w (RetNl (normQ q).1 (normQ q).2 w):=by
 by_cases h0:q.num=0
 ·have e:normQ q=(0,1):=by unfold normQ;rw [if_pos h0]
  rw [e]
  exact Normal_zero q w hG hq h0
 ·by_cases hs:(decS q.num.toNat).size+(decS q.den).size≤17
  ·exact Normal_short q w hG hP hq (by omega) hs
  ·exact Normal_long q w hG hP hq (by omega) hs
end Go.Proofs.YthihcjgmlbnapaaGreatDoor
namespace Go.Proofs.YthihcjgmlbnapaaGreatDoor
open Go.RowKit
def longD (q:Rat):Nat:=max (Lib.decDigits q.num.natAbs).length (Lib.decDigits q.den).length
theorem sdigits_ok (n:Int) (s:ByteArray) (w:World) (hs:s.data.toList=Lib.itoa n) :
  Calls Tryz.prog 61 #[.string s] w (RetB (.int .i64 ((Lib.decDigits n.natAbs).length:Nat)) w):=by
 have HTR:=Lib.hid (fun W=>trimPrefix_any s ⟨#[45]⟩ W (trimMinus hs))
 have HL:=Lib.hid (fun (z:ByteArray) (hz:Hid (z.data.toList=Lib.decDigits n.natAbs))=>(by
  have h1:z.size=z.data.toList.length:=rfl
  rw [h1,hz.out]:z.size=(Lib.decDigits n.natAbs).length))
 generalize (Lib.decDigits n.natAbs).length=N at *
 clear hs
 go_enter Tryz.func61,Tryz.ntmps61
 go_wp2_with fail
 refine (HTR.out _).mono ?_
 rintro e wn ⟨z,hz,rfl,rfl⟩
 have hzl:=HL.out z hz
 go_wp2_with fail
 go_ret
 exact ⟨by rw [← hzl];rfl,bw0 _ _⟩
theorem max_nat {P:Program} (x y:Nat) (ts:Array TypeId) (t:TypeId) (w:World):(Builtin.max_ ts t #[.int .i64 (x:Int),.int .i64 (y:Int)]).run P w=.ok (.int .i64 ((max x y:Nat):Int)) w:=by
 have e:(if (y:Int) > (x:Int) then (y:Int) else (x:Int))=((max x y:Nat):Int):=by split<;>omega
 rw [← e]
 simp [Builtin.max_,Builtin.max2]
theorem longest_ok {k:Nat} {q:Rat} (s:ByteArray) (w:World) (hG:Glo w) (hs:s.data.toList=ratText q) (hq:Sz k q) (hk:k≤300) :
  Calls Tryz.prog 27 #[.string s] w (RetB (.int .i64 (longD q:Nat)) w):=by
 have HPA:=Lib.hid (PartsQ_ok s w hG hs hq hk)
 have HDA:=Lib.hid (fun (x:ByteArray) W (hx:x.data.toList=Lib.itoa q.num)=>sdigits_ok q.num x W hx)
 have HDB:=Lib.hid (fun (x:ByteArray) W (hx:x.data.toList=Lib.decDigits q.den)=>sdigits_ok (q.den:Int) x W (by rw [hx,itoa_natCast]))
 rw [Int.natAbs_natCast] at HDB
 have hM:longD q=max (Lib.decDigits q.num.natAbs).length (Lib.decDigits q.den).length:=rfl
 rw [hM]
 have HMX:=Lib.hid (fun (ts:Array TypeId) (t:TypeId) (w:World)=>max_nat (P:=Tryz.prog) (Lib.decDigits q.num.natAbs).length (Lib.decDigits q.den).length ts t w)
 generalize max (Lib.decDigits q.num.natAbs).length (Lib.decDigits q.den).length=M at *
 generalize (Lib.decDigits q.num.natAbs).length=X at *
 generalize (Lib.decDigits q.den).length=Y at *
 clear hs hG hM hq
 go_enter Tryz.func27,Tryz.ntmps27
 go_wp2_with fail
 refine HPA.out.mono ?_
 rintro e w1 ⟨a,b,ha,hb,rfl,hB1⟩
 go_wp2_with fail
 refine (HDA.out a _ ha.out).mono ?_
 rintro e w2 ⟨rfl,hB2⟩
 have hb2:=below_trans' hB1 hB2
 clear hB1 hB2
 go_wp2_with fail
 refine (HDB.out b _ hb.out).mono ?_
 rintro e w3 ⟨rfl,hB3⟩
 have hb3:=below_trans' hb2 hB3
 have hmx:=HMX.out
 clear hb2 hB3 HPA HDA HDB
 go_wp2_with fail
 go_ret
 exact ⟨rfl,hb3⟩
end Go.Proofs.YthihcjgmlbnapaaGreatDoor
namespace Go.Proofs.YthihcjgmlbnapaaGreatDoor
open Go.RowKit
def tailTxt (q:Rat):List UInt8:=if q.den=1 then [] else 47::Lib.decDigits q.den
def minusB (q:Rat):Bool:=decide (q.num < 0)
theorem ratText_own (q:Rat):ratText q=(if minusB q then [45] else [])++(Lib.decDigits q.num.natAbs++tailTxt q):=by
 unfold ratText tailTxt minusB
 rcases itoa_cases q.num with ⟨h,e⟩|⟨h,e⟩
 ·by_cases hd:q.den=1<;>simp [h,e,hd]
 ·by_cases hd:q.den=1<;>simp [show ¬ q.num < 0 by omega,e,hd]
theorem sizeL (s:ByteArray):s.size=s.data.toList.length:=rfl
def DigS (s:ByteArray) (n:Nat):Prop:=s.data.toList=Lib.decDigits n∧n < 100000000
theorem DigS.size {s:ByteArray} {n:Nat} (h:DigS s n):1≤s.size∧s.size≤8:=by
 rw [sizeL,h.1,Lib.decDigits_length]
 refine ⟨?_,nDigits_le8 h.2⟩
 rw [← Lib.decDigits_length]
 exact List.length_pos_iff.2 (decDigits_ne n)
end Go.Proofs.YthihcjgmlbnapaaGreatDoor
namespace Go.Proofs.YthihcjgmlbnapaaGreatDoor.R6
def pw:Nat→Int
 | 0=>1
 | k+1=>1000000 * pw k
def vt (f:Nat→Int):Nat→Int
 | 0=>0
 | k+1=>vt f k+f k * pw k
def val (l:List Int):Int:=vt (lim l) l.length
def Dig (x:Int):Prop:=0≤x∧x≤999999
def Digs (l:List Int):Prop:=∀ k,Dig (lim l k)
structure Num (l:List Int) (n:Int):Prop where
 digs:Digs l
 trim:Trimmed l
 sum:val l=n
theorem pw_pos (k:Nat):0 < pw k:=by
 induction k with
 | zero=>decide
 | succ k ih=>unfold pw;omega
theorem pw_mono {k m:Nat} (h:k≤m):pw k≤pw m:=by
 induction m with
 | zero=>rw [Nat.le_zero.1 h];exact Int.le_refl _
 | succ m ih =>
  by_cases hk:k=m+1
  ·rw [hk];exact Int.le_refl _
  ·have:=ih (by omega)
   have:=pw_pos m
   show _≤1000000 * pw m
   omega
theorem pw_add (k m:Nat):pw (k+m)=pw k * pw m:=by
 induction m with
 | zero=>simp [pw]
 | succ m ih=>rw [Nat.add_succ,pw,ih,pw];grind
theorem vt_congr {f g:Nat→Int} {k:Nat} (h:∀ i,i < k→f i=g i):vt f k=vt g k:=by
 induction k with
 | zero=>rfl
 | succ k ih=>rw [vt,vt,ih fun i hi=>h i (by omega),h k (by omega)]
theorem vt_bound {f:Nat→Int} {k:Nat} (h:∀ i,i < k→Dig (f i)):0≤vt f k∧vt f k < pw k:=by
 induction k with
 | zero=>exact ⟨Int.le_refl _,by show (0:Int) < 1;omega⟩
 | succ k ih =>
  obtain ⟨i1,i2⟩:=ih fun i hi=>h i (by omega)
  obtain ⟨h1,h2⟩:=h k (by omega)
  have hp:=pw_pos k
  have h3:0≤f k * pw k:=Int.mul_nonneg h1 (by omega)
  have h4:f k * pw k≤999999 * pw k:=Int.mul_le_mul_of_nonneg_right h2 (by omega)
  show 0≤vt f k+f k * pw k∧vt f k+f k * pw k < 1000000 * pw k
  omega
theorem vt_tail {f:Nat→Int} {n m:Nat} (hnm:n≤m) (h:∀ i,n≤i→i < m→f i=0):vt f m=vt f n:=by
 induction m with
 | zero=>rw [Nat.le_zero.1 hnm]
 | succ m ih =>
  by_cases hk:n=m+1
  ·rw [hk]
  ·rw [vt,h m (by omega) (by omega),ih (by omega) fun i h1 h2=>h i h1 (by omega)]
   omega
theorem vt_val {l:List Int} {n:Nat} (h:l.length≤n):vt (lim l) n=val l:=vt_tail h fun _ h1 _=>lim_out h1
theorem vt_split (f:Nat→Int) (j k:Nat):vt f (j+k)=vt f j+pw j * vt (fun i=>f (j+i)) k:=by
 induction k with
 | zero=>simp [vt]
 | succ k ih=>rw [Nat.add_succ,vt,ih,vt,pw_add];grind
theorem digs_of {l:List Int} (h:∀ i,i < l.length→Dig (lim l i)):Digs l:=fun k=>by
 by_cases hk:k < l.length
 ·exact h k hk
 ·rw [lim_out (by omega)];exact ⟨by omega,by omega⟩
theorem Digs.mem {l:List Int} (h:Digs l) (k:Nat):0≤lim l k∧lim l k≤999999:=h k
theorem Digs.bound {l:List Int} (h:Digs l):0≤val l∧val l < pw l.length:=vt_bound fun i _=>h i
theorem val_of_lim {l l':List Int} (h:∀ i,lim l i=lim l' i):val l=val l':=by
 have h1:=vt_val (l:=l) (n:=max l.length l'.length) (Nat.le_max_left _ _)
 have h2:=vt_val (l:=l') (n:=max l.length l'.length) (Nat.le_max_right _ _)
 rw [← h1,← h2]
 exact vt_congr fun i _=>h i
theorem Num.low {l:List Int} {n:Int} (h:Num l n) (hl:l.length≠0):pw (l.length - 1)≤n:=by
 have h0:=h.trim hl
 obtain ⟨k,hk⟩:∃ k,l.length=k+1:=⟨l.length - 1,by omega⟩
 rw [hk,Nat.add_sub_cancel] at h0 ⊢
 have hv:val l=vt (lim l) k+lim l k * pw k:=by unfold val;rw [hk];rfl
 rw [← h.sum,hv]
 have h1:=(vt_bound (f:=lim l) (k:=k) fun i _=>h.digs i).1
 have h2:=h.digs k
 have h3:1 * pw k≤lim l k * pw k:=Int.mul_le_mul_of_nonneg_right (by have:=h2.1;omega) (by have:=pw_pos k;omega)
 omega
theorem Num.high {l:List Int} {n:Int} (h:Num l n):0≤n∧n < pw l.length:=by rw [← h.sum];exact h.digs.bound
theorem Num.zero {l:List Int} {n:Int} (h:Num l n):l.length=0↔n=0:=by
 constructor
 ·intro h0
  rw [← h.sum];unfold val;rw [h0];rfl
 ·intro h0
  refine Decidable.byContradiction fun hl=>?_
  have:=h.low hl
  have:=pw_pos (l.length - 1)
  omega
theorem Num.lt_of_length {a b:List Int} {x y:Int} (ha:Num a x) (hb:Num b y) (h:a.length < b.length):x < y:=by
 have h1:=ha.high.2
 have h2:=hb.low (by omega)
 have h3:=pw_mono (show a.length≤b.length - 1 by omega)
 omega
theorem Num.length_le {a:List Int} {x:Int} {k:Nat} (ha:Num a x) (h:x < pw k):a.length≤k:=by
 refine Decidable.byContradiction fun hc=>?_
 have h2:=ha.low (by omega)
 have h3:=pw_mono (show k≤a.length - 1 by omega)
 omega
theorem vt_top {f g:Nat→Int} {k m:Nat} (hk:k < m) (hf:∀ i,i < k→Dig (f i)) (hg:∀ i,i < k→Dig (g i)) (he:∀ i,k < i→i < m→f i=g i) (h:f k < g k):vt f m < vt g m:=by
 induction m with
 | zero=>omega
 | succ m ih =>
  by_cases hm:k=m
  ·subst hm
   have h1:=(vt_bound hf).2
   have h2:=(vt_bound hg).1
   have h3:(f k+1) * pw k≤g k * pw k:=Int.mul_le_mul_of_nonneg_right (by omega) (by have:=pw_pos k;omega)
   rw [Int.add_mul] at h3
   show vt f k+f k * pw k < vt g k+g k * pw k
   omega
  ·have h1:=ih (by omega) fun i h1 h2=>he i h1 (by omega)
   have h2:=he m (by omega) (by omega)
   show vt f m+f m * pw m < vt g m+g m * pw m
   rw [h2];omega
theorem Num.uniq {a b:List Int} {x:Int} (ha:Num a x) (hb:Num b x):a=b:=by
 have hl:a.length=b.length:=by
  rcases Nat.lt_trichotomy a.length b.length with h|h|h
  ·have:=ha.lt_of_length hb h;omega
  ·exact h
  ·have:=hb.lt_of_length ha h;omega
 refine Decidable.byContradiction fun hne=>?_
 have key:∀ m,m≤a.length→(∀ i,m≤i→i < a.length→lim a i=lim b i):=by
  intro m hm
  obtain ⟨d,hd⟩:∃ d,d=a.length - m:=⟨_,rfl⟩
  induction d generalizing m with
  | zero=>intro i h1 h2;omega
  | succ d ih =>
   have hi:=ih (m+1) (by omega) (by omega)
   intro i h1 h2
   by_cases him:i=m
   ·subst him
    rcases Int.lt_trichotomy (lim a i) (lim b i) with h|h|h
    ·have:=vt_top (f:=lim a) (g:=lim b) (m:=a.length) h2 (fun i _=>ha.digs i) (fun i _=>hb.digs i) (fun j h3 h4=>hi j (by omega) h4) h
     have h5:=ha.sum;have h6:=hb.sum;unfold val at h5 h6;rw [← hl] at h6;omega
    ·exact h
    ·have:=vt_top (f:=lim b) (g:=lim a) (m:=a.length) h2 (fun i _=>hb.digs i) (fun i _=>ha.digs i) (fun j h3 h4=>(hi j (by omega) h4).symm) h
     have h5:=ha.sum;have h6:=hb.sum;unfold val at h5 h6;rw [← hl] at h6;omega
   ·exact hi i (by omega) h2
 exact hne (lim_ext hl fun i hi=>key 0 (Nat.zero_le _) i (Nat.zero_le _) hi)
theorem sum_limbs {a b d c:Nat→Int} (h0:c 0=0) (h:∀ k,d k+1000000 * c (k+1)=a k+b k+c k) (k:Nat):vt d k+c k * pw k=vt a k+vt b k:=by
 induction k with
 | zero=>simp [vt,h0]
 | succ k ih =>
  have:=h k
  show vt d k+d k * pw k+c (k+1) * (1000000 * pw k)=vt a k+a k * pw k+(vt b k+b k * pw k)
  grind
theorem diff_limbs {a b d c:Nat→Int} (h0:c 0=0) (h:∀ k,d k=a k - b k - c k+1000000 * c (k+1)) (k:Nat):vt d k+vt b k=vt a k+c k * pw k:=by
 induction k with
 | zero=>simp [vt,h0]
 | succ k ih =>
  have:=h k
  show vt d k+d k * pw k+(vt b k+b k * pw k)=vt a k+a k * pw k+c (k+1) * (1000000 * pw k)
  grind
theorem vt_set {l:List Int} {p:Nat} {x:Int} (h:p < l.length) (m:Nat):vt (lim (l.set p x)) m=vt (lim l) m+(if p < m then (x - lim l p) * pw p else 0):=by
 induction m with
 | zero=>simp [vt]
 | succ m ih =>
  rw [vt,vt,ih,lim_set h]
  by_cases hm:m=p
  ·subst hm
   rw [if_pos rfl,if_neg (by omega),if_pos (by omega)]
   grind
  ·rw [if_neg hm]
   by_cases hp:p < m
   ·rw [if_pos hp,if_pos (by omega)];grind
   ·rw [if_neg hp,if_neg (by omega)];grind
theorem val_set {l:List Int} {p:Nat} {x:Int} (h:p < l.length):val (l.set p x)=val l+(x - lim l p) * pw p:=by
 unfold val
 rw [List.length_set,vt_set h,if_pos h]
end Go.Proofs.YthihcjgmlbnapaaGreatDoor.R6
namespace Go.Proofs.YthihcjgmlbnapaaGreatDoor.R6
open Go.RowKit Go.Shelf
structure ShortAt (a:List Int) (d:Int) (k:Nat) (q:List Int) (r:Int):Prop where
 len:q.length=a.length
 digs:Digs q
 r0:0≤r
 r1:r < d
 sum:vt (lim a) k+pw k * r+d * val q=val a
 zero:∀ i,i < k→lim q i=0
theorem ShortAt.start (a:List Int) {d:Int} (hd:0 < d):ShortAt a d a.length (zerosL a.length) 0:=by
 have e:val (zerosL a.length)=0:=by
  have:val (zerosL a.length)=val []:=val_of_lim fun i=>by rw [lim_zerosL,lim_nil]
  rw [this];rfl
 exact ⟨zerosL_len _,fun i=>by rw [lim_zerosL];exact ⟨by omega,by omega⟩,by omega,hd,by rw [e];show vt (lim a) a.length+_+_=vt (lim a) a.length;omega,fun i _=>lim_zerosL _ _⟩
theorem ShortAt.step {a:List Int} {d:Int} {k:Nat} {q:List Int} {r:Int} (h:ShortAt a d (k+1) q r) (hk:k < a.length) (ha:Dig (lim a k)) :
  ShortAt a d k (q.set k ((r * 1000000+lim a k) / d)) ((r * 1000000+lim a k) % d):=by
 obtain ⟨a0,a1⟩:=ha
 have h0:=h.r0
 have h1:=h.r1
 have hkq:k < q.length:=by rw [h.len];exact hk
 have hdm:=Int.mul_ediv_add_emod (r * 1000000+lim a k) d
 have hs:=h.sum
 have hz:=h.zero k (by omega)
 refine ⟨by rw [List.length_set];exact h.len,fun i=>?_,Int.emod_nonneg _ (by omega),Int.emod_lt_of_pos _ (by omega),?_,fun i hi=>?_⟩
 ·rw [lim_set hkq]
  split
  ·refine ⟨Int.ediv_nonneg (by omega) (by omega),?_⟩
   have:(r * 1000000+lim a k) / d < 1000000:=Int.ediv_lt_of_lt_mul (by omega) (by
    have h2:(r+1) * 1000000≤d * 1000000:=Int.mul_le_mul_of_nonneg_right (by omega) (by omega)
    rw [Int.mul_comm 1000000 d]
    omega)
   omega
  ·exact h.digs i
 ·rw [val_set hkq,hz]
  rw [vt,pw] at hs
  generalize (r * 1000000+lim a k) / d=Q at *
  generalize (r * 1000000+lim a k) % d=R at *
  grind
 ·rw [lim_set hkq,if_neg (by omega)]
  exact h.zero i (by omega)
end Go.Proofs.YthihcjgmlbnapaaGreatDoor.R6
namespace Go.Proofs.YthihcjgmlbnapaaGreatDoor.R6
open Go.RowKit Go.Shelf
end Go.Proofs.YthihcjgmlbnapaaGreatDoor.R6
namespace Go.Proofs.YthihcjgmlbnapaaGreatDoor.R6
structure TimesIn (a b l0:List Int) (i k:Nat) (l:List Int) (c:Int):Prop where
 len:l.length=a.length+b.length+1
 digs:Digs l
 car:Dig c
 sum:val l+c * pw (i+k)=val l0+lim a i * vt (lim b) k * pw i
 same:∀ j,i+k≤j→lim l j=lim l0 j
 fin:b.length < k→c=0
theorem dig_div {n:Int} (h0:0≤n) (h1:n≤999999999999):Dig (n / 1000000):=⟨by omega,by omega⟩
theorem dig_mod (n:Int):Dig (n % 1000000):=⟨by omega,by omega⟩
theorem mul_dig {x y:Int} (hx:Dig x) (hy:Dig y):0≤x * y∧x * y≤999998000001:=by
 refine ⟨Int.mul_nonneg hx.1 hy.1,?_⟩
 have h1:=Int.mul_le_mul hx.2 hy.2 hy.1 (by omega)
 omega
theorem TimesIn.step {a b l0 l:List Int} {i k:Nat} {c:Int} (h:TimesIn a b l0 i k l c) (ha:Digs a) (hb:Digs b) (hi:i < a.length) (hk:k≤b.length) (h0:lim l0 (i+b.length)=0) :
  TimesIn a b l0 i (k+1) (l.set (i+k) ((lim l (i+k)+lim a i * lim b k+c) % 1000000)) ((lim l (i+k)+lim a i * lim b k+c) / 1000000):=by
 obtain ⟨m1,m2⟩:=mul_dig (ha i) (hb k)
 obtain ⟨o1,o2⟩:=h.digs (i+k)
 obtain ⟨c1,c2⟩:=h.car
 have hp:i+k < l.length:=by rw [h.len];omega
 refine ⟨by rw [List.length_set];exact h.len,fun j=>?_,dig_div (by omega) (by omega),?_,fun j hj=>?_,fun hf=>?_⟩
 ·rw [lim_set hp]
  split
  ·exact dig_mod _
  ·exact h.digs j
 ·rw [val_set hp]
  have hv:=h.sum
  have hdm:lim l (i+k)+lim a i * lim b k+c=(lim l (i+k)+lim a i * lim b k+c) % 1000000+1000000 * ((lim l (i+k)+lim a i * lim b k+c) / 1000000):=by omega
  rw [show i+(k+1)=i+k+1 from rfl,pw,vt]
  have hpa:=pw_add i k
  generalize (lim l (i+k)+lim a i * lim b k+c) % 1000000=r at *
  generalize (lim l (i+k)+lim a i * lim b k+c) / 1000000=q at *
  grind
 ·rw [lim_set hp,if_neg (by omega)];exact h.same j (by omega)
 ·have e:k=b.length:=by omega
  subst e
  have e1:lim b b.length=0:=lim_out (Nat.le_refl _)
  have e2:lim l (i+b.length)=0:=by rw [h.same _ (Nat.le_refl _),h0]
  rw [e1,e2]
  omega
structure TimesTo (a b:List Int) (i:Nat) (l:List Int):Prop where
 len:l.length=a.length+b.length+1
 digs:Digs l
 sum:val l=vt (lim a) i * val b
 zero:∀ j,i+b.length≤j→lim l j=0
theorem TimesTo.start {a b l:List Int} {i:Nat} (h:TimesTo a b i l):TimesIn a b l i 0 l 0:=⟨h.len,h.digs,⟨by omega,by omega⟩,by simp [vt],fun _ _=>rfl,fun _=>rfl⟩
theorem TimesTo.zeros (a b:List Int):TimesTo a b 0 (zerosL (a.length+b.length+1)):=⟨zerosL_len _,fun i=>by rw [lim_zerosL];exact ⟨by omega,by omega⟩,by
 unfold val
 rw [vt_congr (g:=fun _=>0) (fun i _=>lim_zerosL _ i)]
 have:∀ n,vt (fun _=>0) n=0:=fun n=>by
  induction n with
  | zero=>rfl
  | succ n ih=>rw [vt,ih];simp
 rw [this];simp [vt],fun j _=>lim_zerosL _ j⟩
theorem TimesIn.next {a b l0 l:List Int} {i:Nat} {c:Int} (h0:TimesTo a b i l0) (h:TimesIn a b l0 i (b.length+1) l c):TimesTo a b (i+1) l:=by
 refine ⟨h.len,h.digs,?_,fun j hj=>?_⟩
 ·have hc:=h.fin (by omega)
  have hv:=h.sum
  rw [hc,vt_val (show b.length≤b.length+1 by omega),h0.sum] at hv
  rw [vt]
  grind
 ·rw [h.same j (by omega)];exact h0.zero j (by omega)
end Go.Proofs.YthihcjgmlbnapaaGreatDoor.R6
namespace Go.Proofs.YthihcjgmlbnapaaGreatDoor.R6
open Go.RowKit Go.Shelf
structure NumW (l:List Int) (n:Int):Prop where
 digs:Digs l
 sum:val l=n
theorem Num.w {l:List Int} {n:Int} (h:Num l n):NumW l n:=⟨h.digs,h.sum⟩
end Go.Proofs.YthihcjgmlbnapaaGreatDoor.R6
namespace Go.Proofs.YthihcjgmlbnapaaGreatDoor.R6
open Go.RowKit Go.Shelf
end Go.Proofs.YthihcjgmlbnapaaGreatDoor.R6
namespace Go.Proofs.YthihcjgmlbnapaaGreatDoor.R6
open Go.RowKit Go.Shelf
end Go.Proofs.YthihcjgmlbnapaaGreatDoor.R6
namespace Go.Proofs.YthihcjgmlbnapaaGreatDoor.R6
open Go.RowKit Go.Shelf
theorem dval_append (a b:List UInt8):dval (a++b)=dval a * 10 ^ b.length+dval b:=by
 show (a++b).foldl _ 0=_
 rw [List.foldl_append,foldl_dval]
 rfl
theorem pw_six (j:Nat):pw j=((10 ^ (6 * j):Nat):Int):=by
 induction j with
 | zero=>rfl
 | succ j ih =>
  have e:(10:Nat) ^ (6 * (j+1))=1000000 * 10 ^ (6 * j):=by
   rw [show 6 * (j+1)=6 * j+6 by omega,Nat.pow_add,Nat.mul_comm]
  rw [pw,ih,e,Int.natCast_mul]
  rfl
structure GroupAt (s:List UInt8) (k:Nat) (l:List Int):Prop where
 len:l.length=k
 digs:Digs l
 sum:val l=(dval (s.drop (s.length - 6 * k)):Int)
theorem GroupAt.start (s:List UInt8):GroupAt s 0 []:=⟨rfl,fun i=>by rw [lim_nil];exact ⟨by omega,by omega⟩,by simp;rfl⟩
theorem val_snoc (l:List Int) (x:Int):val (l++[x])=val l+x * pw l.length:=by
 unfold val
 rw [List.length_append,List.length_singleton,vt,lim_snoc]
 congr 1
 exact vt_congr fun i hi=>lim_snoc_lt hi
theorem GroupAt.step {s:List UInt8} {k:Nat} {l:List Int} (h:GroupAt s k l) (hk:6 * k < s.length) (hd:nDig s=s.length) :
  dval ((s.drop (s.length - 6 * k - 6)).take (s.length - 6 * k - (s.length - 6 * k - 6)))≤999999∧GroupAt s (k+1) (l++[(dval ((s.drop (s.length - 6 * k - 6)).take (s.length - 6 * k - (s.length - 6 * k - 6))):Int)]):=by
 obtain ⟨en,hen⟩:∃ en,s.length - 6 * k=en:=⟨_,rfl⟩
 rw [hen]
 have hall:∀ c ∈ s,isDig c=true:=by
  have h1:=takeWhile_all s
  have h2:s.takeWhile isDig=s:=List.IsPrefix.eq_of_length (List.takeWhile_prefix _) hd
  rwa [h2] at h1
 have hsub:∀ c ∈ (s.drop (en - 6)).take (en - (en - 6)),isDig c=true:=fun c hc=>hall c (List.mem_of_mem_drop (List.mem_of_mem_take hc))
 have hnd:∀ t:List UInt8,(∀ c ∈ t,isDig c=true)→nDig t=t.length:=fun t ht=>by
  have:=nDig_append (l:=t) (r:=[]) ht (Or.inl rfl)
  rwa [List.append_nil] at this
 have hg:dval ((s.drop (en - 6)).take (en - (en - 6))) < 10 ^ 6:=by
  have h1:=dval_take_lt ((s.drop (en - 6)).take (en - (en - 6))) _ (Nat.le_of_eq (hnd _ hsub).symm)
  rw [List.take_length] at h1
  refine Nat.lt_of_lt_of_le h1 (Nat.pow_le_pow_right (by omega) ?_)
  rw [List.length_take];omega
 have hspl:s.drop (en - 6)=(s.drop (en - 6)).take (en - (en - 6))++s.drop en:=by
  conv=>lhs;rw [← List.take_append_drop (en - (en - 6)) (s.drop (en - 6))]
  rw [List.drop_drop]
  congr 2
  omega
 refine ⟨by omega,by rw [List.length_append,h.len];rfl,?_,?_⟩
 ·refine digs_of fun i hi=>?_
  by_cases h1:i < l.length
  ·rw [lim_snoc_lt h1];exact h.digs i
  ·have:i=l.length:=by rw [List.length_append] at hi;simp only [List.length_singleton] at hi;omega
   rw [this,lim_snoc]
   exact ⟨by omega,by omega⟩
 ·rw [val_snoc,h.sum,hen,show s.length - 6 * (k+1)=en - 6 by omega,h.len,pw_six]
  conv=>rhs;rw [hspl]
  rw [dval_append,List.length_drop,show s.length - en=6 * k by omega]
  rw [Int.natCast_add,Int.natCast_mul]
  omega
end Go.Proofs.YthihcjgmlbnapaaGreatDoor.R6
namespace Go.Proofs.YthihcjgmlbnapaaGreatDoor.R6
open Go.RowKit Go.Shelf
def BlkU (W:World) (g:Nat) (l:List UInt8):Prop:=W.heap[g]?=some (.cells (Lib.byteCells l).toArray 5 (0,0))
theorem BlkU.lt {W:World} {g:Nat} {l:List UInt8} (h:BlkU W g l):g < W.heap.size:=(Array.getElem?_eq_some_iff.1 h).1
theorem BlkU.cell {W:World} {g:Nat} {l:List UInt8} (h:BlkU W g l) {p:Nat} (hp:p < l.length):W.cell? ⟨g,p,none⟩=some (.int .u8 (l[p].toNat:Int)):=by
 simp [World.cell?,show W.heap[g]?=_ from h,Lib.byteCells,hp]
theorem BlkU.frozen {W:World} {g:Nat} {l:List UInt8} (h:BlkU W g l) (p:Nat):W.frozen? ⟨g,p,none⟩=false:=by
 simp [World.frozen?,show W.heap[g]?=_ from h]
theorem BlkU.set {W:World} {g:Nat} {l:List UInt8} (h:BlkU W g l) (p:Nat) (x:UInt8):BlkU (W.setCell ⟨g,p,none⟩ (.int .u8 (x.toNat:Int))) g (l.set p x):=by
 obtain ⟨hlt,hk⟩:=Array.getElem?_eq_some_iff.1 h
 show (W.heap.modify g _)[g]?=_
 rw [Array.getElem?_eq_getElem (by rw [Array.size_modify];exact hlt),Array.getElem_modify_self,hk]
 simp [Lib.byteCells,List.map_set]
theorem BlkU.but {w w':World} {g b:Nat} {l:List UInt8} (h:BlkU w g l) (hs:SameBut b w w') (hne:g≠b):BlkU w' g l:=(hs.block g hne).trans h
theorem pad_top {m V d:Nat} (hV:V < 10 ^ m) (hd:d < 10):pad (m+1) (V+d * 10 ^ m)=UInt8.ofNat (48+d)::pad m V:=by
 induction m generalizing V with
 | zero =>
  have:V=0:=by simpa using hV
  subst this
  simp [pad,Nat.mod_eq_of_lt hd]
 | succ m ih =>
  have e:d * 10 ^ (m+1)=10 * (d * 10 ^ m):=by rw [Nat.pow_succ];grind
  rw [pad,show (V+d * 10 ^ (m+1)) / 10=V / 10+d * 10 ^ m by rw [e];omega,show (V+d * 10 ^ (m+1)) % 10=V % 10 by rw [e];omega,ih (by rw [Nat.pow_succ] at hV;omega),pad]
  rfl
theorem pad_next (N p:Nat):pad (p+1) (N % 10 ^ (p+1))=UInt8.ofNat (48+N / 10 ^ p % 10)::pad p (N % 10 ^ p):=by
 have e:N % 10 ^ (p+1)=N % 10 ^ p+N / 10 ^ p % 10 * 10 ^ p:=by
  rw [Nat.pow_succ,Nat.mod_mul,Nat.mul_comm]
 rw [e]
 exact pad_top (Nat.mod_lt _ (Nat.pow_pos (by omega))) (Nat.mod_lt _ (by omega))
def OutAt (N T p:Nat) (o:List UInt8):Prop:=o.length=T∧o.drop (T - p)=pad p (N % 10 ^ p)
theorem OutAt.step {N T p:Nat} {o:List UInt8} (h:OutAt N T p o) (hp:p < T):OutAt N T (p+1) (o.set (T - p - 1) (UInt8.ofNat (48+N / 10 ^ p % 10))):=by
 obtain ⟨h1,h2⟩:=h
 refine ⟨by rw [List.length_set];exact h1,?_⟩
 have hl:T - p - 1 < (o.set (T - p - 1) (UInt8.ofNat (48+N / 10 ^ p % 10))).length:=by rw [List.length_set];omega
 rw [pad_next,show T - (p+1)=T - p - 1 by omega,List.drop_eq_getElem_cons hl,List.getElem_set_self,List.drop_set_of_lt (by omega),show T - p - 1+1=T - p by omega,h2]
end Go.Proofs.YthihcjgmlbnapaaGreatDoor.R6
namespace Go.Proofs.YthihcjgmlbnapaaGreatDoor.R6
open Go.RowKit Go.Shelf
end Go.Proofs.YthihcjgmlbnapaaGreatDoor.R6
namespace Go.Proofs.YthihcjgmlbnapaaGreatDoor
open Go.RowKit
theorem dec_of_digits (l:List UInt8) (hd:∀ c ∈ l,isDig c=true) (h0:l≠[]) (h1:1 < l.length→l.head?≠some 48):Lib.decDigits (dval l)=l:=by
 induction hn:l.length generalizing l with
 | zero=>exact absurd (List.length_eq_zero_iff.1 hn) h0
 | succ k ih =>
  obtain ⟨t,c,rfl⟩:∃ t c,l=t++[c]:=⟨l.dropLast,l.getLast h0,(List.dropLast_concat_getLast h0).symm⟩
  have hc:=(isDig_iff c).1 (hd c (by simp))
  have e48:UInt8.ofNat (48+(c.toNat - 48))=c:=by
   rw [show 48+(c.toNat - 48)=c.toNat by omega]
   simp
  rw [dval_snoc]
  by_cases ht:t=[]
  ·subst ht
   rw [show 10 * dval []+(c.toNat - 48)=c.toNat - 48 by simp [dval],Lib.decDigits_one (by omega),e48]
   rfl
  ·have ht1:1≤t.length:=List.length_pos_iff.2 ht
   have hhead:t.head?≠some 48:=by
    have:=h1 (by rw [List.length_append];simp;omega)
    cases t with
    | nil=>exact absurd rfl ht
    | cons a r=>simpa using this
   have hih:=ih t (fun c hc=>hd c (by simp [hc])) ht (fun _=>hhead) (by rw [List.length_append] at hn;simpa using hn)
   have hpos:0 < dval t:=by
    refine Nat.pos_of_ne_zero fun hz=>?_
    rw [hz,Lib.decDigits_one (by omega)] at hih
    rw [← hih] at hhead
    exact hhead rfl
   rw [Lib.decDigits,dif_neg (by omega),show (10 * dval t+(c.toNat - 48)) / 10=dval t by omega,show (10 * dval t+(c.toNat - 48)) % 10=c.toNat - 48 by omega,hih,e48]
end Go.Proofs.YthihcjgmlbnapaaGreatDoor
namespace Go.Proofs.YthihcjgmlbnapaaGreatDoor
open Go.RowKit
theorem text_is {a b:Nat} (m:Bool) (hb:1≤b) (hg:Nat.gcd a b=1) (hm:m=true→a≠0) :
  ∃ q:Rat,q.num.natAbs=a∧q.den=b∧ratText q=(if m then [45] else [])++(Lib.decDigits a++if b=1 then [] else 47::Lib.decDigits b):=by
 refine ⟨⟨if m then -(a:Int) else (a:Int),b,by omega,?_⟩,?_,rfl,?_⟩
 ·cases m
  ·simpa [Nat.Coprime] using hg
  ·simpa [Nat.Coprime] using hg
 ·cases m<;>simp
 ·rw [ratText_own]
  cases m
  ·simp [minusB,tailTxt]
  ·have:=hm rfl
   have h:minusB ⟨if true then -(a:Int) else (a:Int),b,by omega,by simpa [Nat.Coprime] using hg⟩=true:=by simp [minusB];omega
   rw [h]
   simp [tailTxt]
end Go.Proofs.YthihcjgmlbnapaaGreatDoor
namespace Go.Proofs.YthihcjgmlbnapaaGreatDoor
def IsNum (s:ByteArray):Prop:=∃ q:Rat,s.data.toList=ratText q∧Sz 300 q
theorem cut_spec (l:List UInt8):∃ (a b:List UInt8) (c:Bool),Lib.cut l [47]=(a,b,c)∧l=a++(if c then 47::b else []):=by
 unfold Lib.cut
 rcases Lib.index_spec l [47] with ⟨h1,_⟩|⟨i,h1,h2,h3,_⟩
 ·rw [h1]
  exact ⟨l,[],false,by simp,by simp⟩
 ·have hi:=Lib.occAt_head (s:=l) (sub:=[47]) (i:=i) (c:=47) (t:=[]) rfl h3
  rw [h1]
  refine ⟨l.take i,l.drop (i+1),true,by simp,?_⟩
  have hlt:i < l.length:=by
   rcases Nat.lt_or_ge i l.length with h|h
   ·exact h
   ·rw [List.getElem?_eq_none h] at hi;cases hi
  rw [List.getElem?_eq_getElem hlt] at hi
  injection hi with hi
  conv=>lhs;rw [← List.take_append_drop i l]
  rw [List.drop_eq_getElem_cons hlt,hi]
  rfl
theorem digs_le (l:List UInt8):digs l≤l.length:=by
 unfold digs
 split
 ·omega
 ·exact nDig_le l
theorem dec_of_digs {l:List UInt8} (h0:digs l≠0) (h1:¬ digs l < l.length):Lib.decDigits (dval l)=l:=by
 unfold digs at h0 h1
 split at h0
 ·exact absurd rfl h0
 ·rename_i hc
  rw [if_neg hc] at h1
  have hn:=nDig_le l
  refine dec_of_digits l (fun c hc=>?_) (fun e=>by subst e;exact h0 rfl) (fun h h'=>hc ⟨by omega,h'⟩)
  obtain ⟨j,hj,rfl⟩:=List.getElem_of_mem hc
  exact isDig_of_lt l j (by omega) hj
theorem minus_spec (l:List UInt8):∃ (o:List UInt8) (c:Bool),Lib.trimPrefix l [45]=o∧Lib.hasPrefix l [45]=c∧l=(if c then [45] else [])++o:=by
 unfold Lib.trimPrefix Lib.hasPrefix
 cases l with
 | nil=>exact ⟨[],false,rfl,rfl,rfl⟩
 | cons a t =>
  by_cases h:a=45
  ·subst h
   exact ⟨t,true,by simp,by simp,by simp⟩
  ·refine ⟨a::t,false,?_,?_,by simp⟩
   ·rw [if_neg];simp [List.isPrefixOf];exact fun h'=>h h'.symm
   ·simp [List.isPrefixOf];exact fun h'=>h h'.symm
theorem dec_zero_iff {n:Nat}:Lib.decDigits n=[48]↔n=0:=by
 constructor
 ·intro h
  have:=congrArg dval h
  rw [dval_decDigits] at this
  exact this.trans (by decide)
 ·rintro rfl
  rw [Lib.decDigits_one (by omega)];decide
theorem dec_one_iff {n:Nat}:Lib.decDigits n=[49]↔n=1:=by
 constructor
 ·intro h
  have:=congrArg dval h
  rw [dval_decDigits] at this
  exact this.trans (by decide)
 ·rintro rfl
  rw [Lib.decDigits_one (by omega)];decide
theorem natInt_eq {l r:List UInt8} {n:Nat} (h:natInt l=some (n,r)):l=Lib.decDigits n++r∧n < 100000000:=by
 unfold natInt at h
 split at h
 ·cases h
 ·rename_i hc
  injection h with h
  injection h with h1 h2
  have hl:=nDig_le l
  have hd:Lib.decDigits (dval (l.take (nDig l)))=l.take (nDig l):=by
   refine dec_of_digits _ (fun c hc=>?_) (fun e=>?_) (fun h3 h4=>?_)
   ·obtain ⟨j,hj,rfl⟩:=List.getElem_of_mem hc
    rw [List.length_take] at hj
    rw [List.getElem_take]
    exact isDig_of_lt l j (by omega) (by omega)
   ·have:=congrArg List.length e
    rw [List.length_take] at this
    have e0:([]:List UInt8).length=0:=rfl
    omega
   ·rw [List.length_take] at h3
    refine hc (.inr (.inr ⟨by omega,?_⟩))
    rw [List.head?_take,if_neg (by omega)] at h4
    exact h4
  subst h1;subst h2
  refine ⟨?_,?_⟩
  ·rw [hd,List.take_append_drop]
  ·exact Nat.lt_of_lt_of_le (dval_take_lt l (nDig l) (Nat.le_refl _)) (Nat.pow_le_pow_right (n:=10) (by omega) (show nDig l≤8 by omega))
theorem text_num {l:List UInt8} {a b:Nat} (m:Bool) (hb:1≤b) (hg:Nat.gcd a b=1) (hm:m=true→a≠0) (hl:l=(if m then [45] else [])++(Lib.decDigits a++if b=1 then [] else 47::Lib.decDigits b)) (ha:a < 10 ^ 300) (hb3:b < 10 ^ 300):∃ q:Rat,l=ratText q∧Sz 300 q:=by
 obtain ⟨q,h1,h2,h3⟩:=text_is m hb hg hm
 exact ⟨q,by rw [hl,h3],by rw [h1];exact ha,by rw [h2];exact hb3⟩
theorem natOf_num {l:List UInt8} {n:Int} {d:Nat} (h:natOf l=some (n,d)):∃ q:Rat,l=ratText q∧Sz 300 q:=by
 have p8:(100000000:Nat)≤10 ^ 300:=Nat.le_trans (show 100000000≤10 ^ 8 by omega) (pow10_le (a:=8) (b:=300) (by decide))
 obtain ⟨m,own,hm,hown,hl⟩:∃ (m:Bool) (own:List UInt8),m=decide (l.head?=some 45)∧own=(if l.head?=some 45 then l.tail else l)∧l=(if m then [45] else [])++own:=by
  by_cases h45:l.head?=some 45
  ·refine ⟨true,l.tail,by simp [h45],by rw [if_pos h45],?_⟩
   cases l with
   | nil=>cases h45
   | cons a t=>injection h45 with h45;subst h45;rfl
  ·exact ⟨false,l,by simp [h45],by rw [if_neg h45],rfl⟩
 rw [natOf_own hown] at h
 cases hn:natInt own with
 | none=>rw [hn] at h;cases h
 | some p =>
  obtain ⟨a,rest⟩:=p
  rw [hn] at h
  obtain ⟨e1,b1⟩:=natInt_eq hn
  simp only at h
  split at h
  ·cases h
  ·rename_i hz
   have hmz:m=true→a≠0:=fun hmt h0=>hz ⟨by rw [hm] at hmt;simpa using hmt,h0⟩
   split at h
   ·rename_i hr
    subst hr
    exact text_num (a:=a) (b:=1) m (by omega) (Nat.gcd_one_right _) hmz (by rw [hl,e1,if_pos rfl]) (by omega) (by omega)
   ·split at h
    ·cases h
    ·rename_i hr0 hr1
     have hrest:rest=47::rest.tail:=by
      cases rest with
      | nil=>exact absurd rfl hr0
      | cons c t =>
       have:c=47:=by simpa using hr1
       subst this;rfl
     cases hd:natInt rest.tail with
     | none=>rw [hd] at h;cases h
     | some p2 =>
      obtain ⟨y,r⟩:=p2
      rw [hd] at h
      simp only at h
      obtain ⟨e2,b2⟩:=natInt_eq hd
      split at h
      ·cases h
      ·rename_i hc
       have hr:r=[]:=Decidable.byContradiction fun h'=>hc (.inl h')
       have hy2:¬ y < 2:=fun h'=>hc (.inr (.inl h'))
       have hg:Nat.gcd a y=1:=Decidable.byContradiction fun h'=>hc (.inr (.inr h'))
       subst hr
       rw [List.append_nil] at e2
       exact text_num (a:=a) (b:=y) m (by omega) hg hmz (by rw [hl,e1,if_neg (show ¬ y=1 by omega),hrest,e2]) (by omega) (by omega)
end Go.Proofs.YthihcjgmlbnapaaGreatDoor
