/- Joined texts: EncPlain, SgnPlain, WSFloor, WSgn, WGlo4, WPair, WDivN, WRFloor, WFloorN. -/
import Derived.Test.YtbbclfbpllbbbaaGreatDoorJ13
import Derived.Test.YtbbclfbpllbbbaaGreatDoorJ07
import Derived.Test.YtbbclfbpllbbbaaGreatDoorJ11
import Derived.Test.YtbbclfbpllbbbaaGreatDoorJ01
import Derived.FnData
import Derived.Test.YtbbclfbpllbbbaaGreatDoorJ08
import Derived.Test.YtbbclfbpllbbbaaGreatDoorJ10
import Derived.Test.YtbbclfbpllbbbaaGreatDoorJ03
import Derived.Test.YtbbclfbpllbbbaaGreatDoorJ02
set_option maxRecDepth 100000
set_option linter.unusedVariables false
set_option linter.unusedSimpArgs false
set_option maxHeartbeats 12800000
namespace Go.Proofs.YtbbclfbpllbbbaaGreatDoor
open Go
def thQ (q:Rat):Nat:=rootN (q.num.toNat * 1000000 / q.den)
def tmK (x:Rat × Nat):Int:=if x.1.num < 0 then -((thQ (x.1 * x.1 * ((x.2:Int):Rat)):Nat):Int) else ((thQ (x.1 * x.1 * ((x.2:Int):Rat)):Nat):Int)
def smK:Terms→Int
 | []=>0
 | x::T=>tmK x+smK T
theorem smK_snoc (T:Terms) (x:Rat × Nat):smK (T++[x])=smK T+tmK x:=by
 induction T with
 | nil=>simp [smK]
 | cons y T ih=>simp only [List.cons_append,smK,ih];omega
theorem rootN_lt {s k:Nat} (h:s < 10 ^ (k+k)):rootN s < 10 ^ k:=by
 have h1:=(rootN_spec s).1
 refine Nat.lt_of_not_le fun h2=>?_
 have h3:10 ^ k * 10 ^ k≤rootN s * rootN s:=Nat.mul_le_mul h2 h2
 rw [Nat.pow_add] at h
 omega
theorem rootN_lt' {s k:Nat} (h:s < 10 ^ k * 10 ^ k):rootN s < 10 ^ k:=rootN_lt (by rw [Nat.pow_add];exact h)
theorem thQ_lt {q:Rat} (h:Sz 80 q):thQ q < 10 ^ 43:=by
 unfold thQ
 refine rootN_lt (k:=43) ?_
 refine Nat.lt_of_le_of_lt (Nat.div_le_self _ _) ?_
 have h1:q.num.toNat≤q.num.natAbs:=by omega
 have h2:q.num.toNat < 10 ^ 80:=Nat.lt_of_le_of_lt h1 h.1
 have h3:q.num.toNat * 1000000 < 10 ^ 80 * 1000000:=Nat.mul_lt_mul_of_pos_right h2 (by decide)
 exact h3
theorem sq_sz {c:Rat} {m:Nat} (hc:Sz 20 c) (hm:m < 10 ^ 40):Sz 40 (c * c)∧Sz 80 (c * c * ((m:Int):Rat)):=by
 have h1:Sz 40 (c * c):=hc.mul hc
 exact ⟨h1,h1.mul (b:=40) (sz_natR hm (by decide))⟩
theorem sq_nonneg {c:Rat} {m:Nat}:0≤(c * c * ((m:Int):Rat)).num:=by
 rw [Rat.num_nonneg]
 refine Rat.mul_nonneg ?_ Rat.natCast_nonneg
 rcases (Rat.le_total:0≤c∨c≤0) with h|h
 ·exact Rat.mul_nonneg h h
 ·have h2:0≤-c:=by grind
  have:=Rat.mul_nonneg h2 h2
  grind
def Short20 (T:Terms):Prop:=∀ x ∈ T,Sz 20 x.1∧x.2 < 10 ^ 40
theorem tmK_lt {x:Rat × Nat} (hc:Sz 20 x.1) (hm:x.2 < 10 ^ 40):(tmK x).natAbs < 10 ^ 43:=by
 have h:=thQ_lt (sq_sz hc hm).2
 unfold tmK
 split<;>omega
theorem smK_le {T:Terms} (h:Short20 T):(smK T).natAbs≤T.length * 10 ^ 43:=by
 induction T with
 | nil=>simp [smK]
 | cons x T ih =>
  have h1:=tmK_lt (h x (by simp)).1 (h x (by simp)).2
  have h2:=ih fun y hy=>h y (by simp [hy])
  simp only [smK,List.length_cons,Nat.succ_mul]
  omega
theorem Short20.take {T:Terms} (h:Short20 T) (k:Nat):Short20 (T.take k):=fun x hx=>h x (List.mem_of_mem_take hx)
theorem smK_lt {T:Terms} (h:Short20 T) (hl:T.length≤12):(smK T).natAbs < 10 ^ 45:=by
 have h1:=smK_le h
 have h2:T.length * 10 ^ 43≤12 * 10 ^ 43:=Nat.mul_le_mul_right _ hl
 have h3:12 * 10 ^ 43 < 10 ^ 45:=by decide
 omega
theorem sz_thou {k:Int} {n:Nat} (h:k.natAbs < 10 ^ n) (hn:4≤n):Sz n ((k:Rat) / 1000):=by
 have e:(k:Rat) / 1000=Rat.divInt k 1000:=by rw [Rat.divInt_eq_div];rfl
 rw [e]
 exact sz_divInt (by decide) h (Nat.lt_of_lt_of_le (show (1000:Int).natAbs < 10 ^ 4 by decide) (Nat.pow_le_pow_right (by decide) hn))
theorem thou_add (a b:Int):(a:Rat) / 1000+(b:Rat) / 1000=((a+b:Int):Rat) / 1000:=by rw [Rat.intCast_add];grind
theorem thou_neg (a:Int):0 - (a:Rat) / 1000=((-a:Int):Rat) / 1000:=by rw [Rat.intCast_neg];grind
theorem floor_thou (k:Int):((k:Rat) / 1000).floor=k / 1000:=by
 have h1:k / 1000≤((k:Rat) / 1000).floor:=Rat.le_floor_iff.2 (by
  have:((k / 1000 * 1000:Int):Rat)≤(k:Rat):=Rat.intCast_le_intCast.2 (by omega)
  rw [Rat.intCast_mul] at this
  have e:((1000:Int):Rat)=1000:=rfl
  rw [e] at this
  grind)
 have h2:¬ k / 1000+1≤((k:Rat) / 1000).floor:=fun h=>by
  have h:=Rat.le_floor_iff.1 h
  have:(k:Rat) < (((k / 1000+1) * 1000:Int):Rat):=Rat.intCast_lt_intCast.2 (by omega)
  rw [Rat.intCast_mul] at this
  have e:((1000:Int):Rat)=1000:=rfl
  rw [e] at this
  grind
 omega
theorem SgnIs.near {f g:Nat→Rat} {s:Int} (h:SgnIs f s) (n:Near0 (fun P=>f P - g P)):SgnIs g s:=by
 rcases h with ⟨e,h⟩|⟨e,h⟩|⟨e,h⟩
 ·exact .inl ⟨e,h.near (n.mul (k:=-1) fun P=>rfl) fun P=>by grind⟩
 ·exact .inr (.inl ⟨e,h.near n fun P=>by grind⟩)
 ·exact .inr (.inr ⟨e,h.add (n.mul (k:=-1) (h:=fun P=>-1 * (f P - g P)) fun P=>rfl) fun P=>by grind⟩)
theorem SgnIs.neg {f g:Nat→Rat} {s:Int} (h:SgnIs f s) (e:∀ P,g P=- f P):SgnIs g (-s):=by
 rcases h with ⟨e1,h⟩|⟨e1,h⟩|⟨e1,h⟩
 ·refine .inr (.inl ⟨by rw [e1],?_⟩)
  have:(fun P=>- g P)=f:=funext fun P=>by rw [e P];grind
  rw [this];exact h
 ·refine .inl ⟨by rw [e1];rfl,?_⟩
  have:g=fun P=>- f P:=funext e
  rw [this];exact h
 ·exact .inr (.inr ⟨by rw [e1];rfl,h.mul (k:=-1) fun P=>by rw [e P];grind⟩)
theorem SgnIs.cong {f g:Nat→Rat} {s:Int} (h:SgnIs f s) (e:∀ P,g P=f P):SgnIs g s:=by
 have:g=f:=funext e
 rw [this];exact h
end Go.Proofs.YtbbclfbpllbbbaaGreatDoor
namespace Go.Proofs.YtbbclfbpllbbbaaGreatDoor
open Go
def itS (z:Int):ByteArray:=⟨(Lib.itoa z).toArray⟩
theorem itS_list (z:Int):(itS z).data.toList=Lib.itoa z:=by simp [itS]
theorem itS_of {s:ByteArray} {z:Int} (h:s.data.toList=Lib.itoa z):s=itS z:=by
 apply ByteArray.ext
 apply Array.toList_inj.1
 rw [h,itS_list]
theorem flS_snoc (p:Nat) (T:Terms) (x:Rat × Nat):flS p (T++[x])=flS p T+flI x.1 x.2 p:=by
 induction T with
 | nil=>simp [flS]
 | cons y T ih=>simp only [List.cons_append,flS,ih];omega
theorem flI_le {q:Rat} {m p:Nat} (hq:Sz 60 q) (hm:m < 10 ^ 40) (hp:p≤64):(flI q m p).natAbs≤10 ^ 145:=by
 have hs:q.num.natAbs * q.num.natAbs * m * (10 ^ p * 10 ^ p) < 10 ^ 144 * 10 ^ 144:=by
  have h1:q.num.natAbs * q.num.natAbs < 10 ^ 60 * 10 ^ 60:=Nat.mul_lt_mul'' hq.1 hq.1
  have h2:q.num.natAbs * q.num.natAbs * m < 10 ^ 60 * 10 ^ 60 * 10 ^ 40:=Nat.mul_lt_mul'' h1 hm
  have h3:10 ^ p≤10 ^ 64:=Nat.pow_le_pow_right (by decide) hp
  have h4:10 ^ p * 10 ^ p≤10 ^ 64 * 10 ^ 64:=Nat.mul_le_mul h3 h3
  have h5:q.num.natAbs * q.num.natAbs * m * (10 ^ p * 10 ^ p) < 10 ^ 60 * 10 ^ 60 * 10 ^ 40 * (10 ^ 64 * 10 ^ 64) :=
   Nat.lt_of_le_of_lt (Nat.mul_le_mul_left _ h4) (Nat.mul_lt_mul_of_pos_right h2 (by decide))
  exact Nat.lt_of_lt_of_le h5 (by decide)
 have hr:=rootN_lt' hs
 have hd:rootN (q.num.natAbs * q.num.natAbs * m * (10 ^ p * 10 ^ p)) / q.den≤rootN (q.num.natAbs * q.num.natAbs * m * (10 ^ p * 10 ^ p)):=Nat.div_le_self _ _
 have he:(10:Nat) ^ 144+1≤10 ^ 145:=by decide
 unfold flI
 dsimp only
 clear hs
 generalize rootN (q.num.natAbs * q.num.natAbs * m * (10 ^ p * 10 ^ p))=r at *
 generalize r / q.den=d at *
 generalize (10:Nat) ^ 144=X at *
 generalize (10:Nat) ^ 145=Y at *
 split
 ·split<;>omega
 ·omega
def Mid60 (T:Terms):Prop:=∀ x ∈ T,Sz 60 x.1∧x.2 < 10 ^ 40
theorem Mid60.take {T:Terms} (h:Mid60 T) (k:Nat):Mid60 (T.take k):=fun x hx=>h x (List.mem_of_mem_take hx)
theorem flS_le {T:Terms} {p:Nat} (h:Mid60 T) (hp:p≤64):(flS p T).natAbs≤T.length * 10 ^ 145:=by
 induction T with
 | nil=>simp [flS]
 | cons x T ih =>
  have h1:=flI_le (h x (by simp)).1 (h x (by simp)).2 hp
  have h2:=ih fun y hy=>h y (by simp [hy])
  simp only [flS,List.length_cons,Nat.succ_mul]
  omega
theorem flS_fit {T:Terms} {p:Nat} (h:Mid60 T) (hp:p≤64) (hl:T.length≤12) (j:Nat) (hj:j≤12):Fit (flS p T+(j:Int)):=by
 have h1:=flS_le h hp
 have h2:T.length * 10 ^ 145≤12 * 10 ^ 145:=Nat.mul_le_mul_right _ hl
 have h3:12 * 10 ^ 145+12 < 10 ^ 150:=by decide
 exact fit_of_lt (Nat.lt_of_lt_of_le (show (flS p T+(j:Int)).natAbs < 10 ^ 150 by omega) (pow10_le (a:=150) (b:=300) (by decide)))
theorem flI_fit {q:Rat} {m p:Nat} (hq:Sz 60 q) (hm:m < 10 ^ 40) (hp:p≤64):Fit (flI q m p) :=
 fit_of_lt (Nat.lt_of_le_of_lt (flI_le hq hm hp) (Nat.lt_of_lt_of_le (Nat.pow_lt_pow_right (by decide) (by decide:145 < 146)) (pow10_le (a:=146) (b:=300) (by decide))))
theorem ResT.mid {L:TTexts} {T:Terms} (h:ResT L T):Mid60 T:=by
 intro x hx
 obtain ⟨k,hk,rfl⟩:=List.getElem_of_mem hx
 have hk2:k < L.length:=by rw [← h.same];exact hk
 have h1:=h.cz k hk2
 have h2:=h.rn k hk2
 rw [tq_get hk] at h1 h2
 exact ⟨longD_sz h1,lenSz h2⟩
theorem cmp0 (x:Int):(0 < x∧Lib.compareInt x 0=1)∨(x=0∧Lib.compareInt x 0=0)∨(x < 0∧Lib.compareInt x 0=-1):=by
 unfold Lib.compareInt
 by_cases h:x < 0
 ·right;right;exact ⟨h,if_pos h⟩
 ·by_cases h2:x=0
  ·right;left;exact ⟨h2,by rw [h2];rfl⟩
  ·left;exact ⟨by omega,by rw [if_neg h,if_pos (by omega)]⟩
def plN (j:Nat):Nat:=[4,16,64].getD j 0
theorem plN_le {j:Nat} (h:j < 3):plN j≤64:=by
 have:j=0∨j=1∨j=2:=by omega
 rcases this with rfl|rfl|rfl<;>decide
theorem pl_drop {j:Nat} (h:j < 3):[4,16,64].drop j=plN j::[4,16,64].drop (j+1):=by
 have:j=0∨j=1∨j=2:=by omega
 rcases this with rfl|rfl|rfl<;>rfl
theorem pl_last {j:Nat} (h:j < 3):[4,16,64].drop (j+1)=[]↔j=2:=by
 have:j=0∨j=1∨j=2:=by omega
 rcases this with rfl|rfl|rfl<;>decide
end Go.Proofs.YtbbclfbpllbbbaaGreatDoor
namespace Go.Proofs.YtbbclfbpllbbbaaGreatDoor
open Go.RowKit Go.Shelf
theorem itoa_byte {N:Int} {a:ByteArray} (h:a.data.toList=Lib.itoa N):∃ h0:0 < a.size,((a[0].toNat:Int) == 45)=decide (N < 0):=by
 have h0:0 < a.size:=by
  have h1:a.size=a.data.toList.length:=rfl
  rw [h1,h]
  rcases itoa_cases N with ⟨_,e⟩|⟨_,e⟩<;>rw [e]
  ·simp
  ·exact List.length_pos_iff.2 (decDigits_ne _)
 refine ⟨h0,?_⟩
 rcases itoa_cases N with ⟨hn,e⟩|⟨hn,e⟩
 ·rw [decide_eq_true hn]
  exact headq45' h0 (by rw [h,e];rfl)
 ·rw [decide_eq_false (by omega)]
  refine Bool.eq_false_iff.2 fun h'=>?_
  have h2:=headq45 h0 h'
  rw [h,e] at h2
  exact decDigits_no45 N.natAbs [] (by rw [List.append_nil];exact h2)
theorem root_succ {S R D:Nat} (hF:Fit (S:Int)) (hR:R * R≤S) (hD:0 < D):Fit (((R / D:Nat):Int)+1):=by
 have h1:R / D≤R:=Nat.div_le_self _ _
 generalize R / D=Q at *
 by_cases h:R≤1
 ·have h2:((Q:Int)+1)=1∨((Q:Int)+1)=2:=by omega
  rcases h2 with e|e<;>rw [e]<;>unfold Fit<;>decide +kernel
 ·have h2:2 * R≤R * R:=Nat.mul_le_mul_right _ (by omega)
  have h3:=fit_lt (n:=Q+1) (show Q+1≤S by omega) hF
  exact h3
theorem flI_eq (c:Rat) (m p:Nat) (N:Int) (D S:Nat) (hN:c.num=N) (hD:c.den=D) (hS:N.natAbs * N.natAbs * m * (10 ^ p * 10 ^ p)=S) :
  (¬ N < 0→flI c m p=((rootN S / D:Nat):Int))∧(N < 0→rootN S * rootN S=S∧rootN S % D=0→flI c m p=0 - ((rootN S / D:Nat):Int))∧(N < 0→¬ (rootN S * rootN S=S∧rootN S % D=0)→flI c m p=0 - (((rootN S / D:Nat):Int)+1)):=by
 unfold flI
 rw [hN,hD,hS]
 refine ⟨fun h=>?_,fun h1 h2=>?_,fun h1 h2=>?_⟩
 ·simp only [if_neg h]
 ·simp only [if_pos h1,if_pos h2,Nat.add_zero];omega
 ·simp only [if_pos h1,if_neg h2];omega
theorem sfloor_ok (q:Rat) (m p:Nat) (c r:ByteArray) (w:World) (hG:Glo w) (hc:c.data.toList=ratText q) (hr:r.data.toList=Lib.decDigits m) (hq:Sz 60 q) (hm:m < 10 ^ 40) (hp:p≤64) :
  Calls Tryz.prog 108 #[.agg #[.string c,.string r],.int .i64 p] w (RetS (Lib.itoa (flI q m p)) w):=by
 have hri:r.data.toList=Lib.itoa (m:Int):=by rw [hr,itoa_natCast]
 have HPA:=Lib.hid (fun W hG=>PartsQ_ok (k:=60) c W hG hc hq (by decide))
 obtain ⟨N,hN⟩:∃ N,q.num=N:=⟨_,rfl⟩
 obtain ⟨D,hD⟩:∃ D,q.den=D:=⟨_,rfl⟩
 have hD0:0 < D:=by rw [← hD];exact q.den_pos
 have hN1:N.natAbs < 10 ^ 60:=by rw [← hN];exact hq.1
 have hD1:D < 10 ^ 60:=by rw [← hD];exact hq.2
 rw [hN,hD] at HPA
 obtain ⟨S,hS⟩:∃ S,N.natAbs * N.natAbs * m * (10 ^ p * 10 ^ p)=S:=⟨_,rfl⟩
 obtain ⟨f1,f2,f3⟩:=flI_eq q m p N D S hN hD hS
 obtain ⟨V,hV⟩:∃ V,flI q m p=V:=⟨_,rfl⟩
 rw [hV] at f1 f2 f3 ⊢
 have hUL:10 ^ (2 * p) < 10 ^ 129:=Nat.pow_lt_pow_right (by decide) (by omega)
 have HTX:=Lib.hid (fun (r:ByteArray) (hr:r.data.toList=List.replicate (2 * p) 48)=>(by
  rw [itoa_natCast,dec_pow10,← hr];simp:((⟨#[49]⟩:ByteArray)++r).data.toList=Lib.itoa ((10 ^ (2 * p):Nat):Int)))
 have hSe:N * N * (m:Int) * ((10 ^ (2 * p):Nat):Int)=(S:Int):=by
  rw [← hS,Nat.two_mul,Nat.pow_add]
  simp only [Int.natCast_mul]
  rw [← Int.natCast_mul N.natAbs N.natAbs,Int.natAbs_mul_self]
 obtain ⟨U,hU⟩:∃ U,10 ^ (2 * p)=U:=⟨_,rfl⟩
 rw [hU] at hUL HTX hSe
 have hm1:((m:Nat):Int).natAbs < 10 ^ 40:=by simpa using hm
 have hU1:((U:Nat):Int).natAbs < 10 ^ 129:=by simpa using hUL
 have F0:Fit N:=fit_of_lt (pow300 hN1 (by decide))
 have F1:Fit (N * N):=fit_mul hN1 hN1 (by decide)
 have Fm:Fit (m:Int):=fit_of_lt (pow300 hm1 (by decide))
 have F2:Fit (N * N * (m:Int)):=fit_mul (mul_lt hN1 hN1) hm1 (by decide)
 have FU:Fit (U:Int):=fit_of_lt (pow300 hU1 (by decide))
 have F3:Fit (S:Int):=by rw [← hSe];exact fit_mul (mul_lt (mul_lt hN1 hN1) hm1) hU1 (by decide)
 have FD:Fit (D:Int):=fit_of_lt (pow300 (k:=60) (by simpa using hD1) (by decide))
 obtain ⟨R,hR⟩:∃ R,rootN S=R:=⟨_,rfl⟩
 rw [hR] at f1 f2 f3
 have hRS:R * R≤S:=by rw [← hR];exact (rootN_spec S).1
 have FRR:Fit ((R:Int) * (R:Int)):=by
  rw [show (R:Int) * (R:Int)=((R * R:Nat):Int) by push_cast;rfl]
  exact fit_lt hRS F3
 have FR:Fit (R:Int):=fit_lt (Nat.le_trans (Nat.le_mul_self _) hRS) F3
 have FQ:Fit ((R / D:Nat):Int):=fit_lt (Nat.div_le_self _ _) FR
 have FQ1:Fit (((R / D:Nat):Int)+1):=root_succ F3 hRS hD0
 have HM1:=Lib.hid (fun (a:ByteArray) W hG ha=>(Imul_ok N N a a W hG ha F0 ha F0).mono fun e w' h=>h.1 F1)
 have HM2:=Lib.hid (fun (a:ByteArray) W hG ha=>(Imul_ok (N * N) m a r W hG ha F1 hri Fm).mono fun e w' h=>h.1 F2)
 have HM3:=Lib.hid (fun (a b:ByteArray) W hG ha hb=>(by rw [← hSe] at F3;rw [← hSe];exact (Imul_ok (N * N * m) U a b W hG ha F2 hb FU).mono fun e w' h=>h.1 F3:Calls Tryz.prog 104 #[.string a,.string b] W (RetI (S:Int) W)))
 have HRT:=Lib.hid (fun (a:ByteArray) W hG (ha:a.data.toList=Lib.itoa (S:Int))=>(by
  rw [itoa_natCast] at ha
  rw [← hR]
  refine Root_ok S a W hG ha ?_
  have h1:a.size=a.data.toList.length:=rfl
  rw [h1,ha]
  exact F3:Calls Tryz.prog 167 #[.string a] W (RetI (R:Nat) W)))
 have HDV:=Lib.hid (fun (a b:ByteArray) W hG ha (hb:b.data.toList=Lib.decDigits D)=>(by
  have h:=IDivide_ok (R:Int) (D:Int) a b W hG ha FR (by rw [hb,itoa_natCast]) FD (by omega) (.inr (by omega))
  rw [← Int.natCast_ediv,← Int.natCast_emod] at h
  exact h:Calls Tryz.prog 119 #[.string a,.string b] W (RetQR ((R / D:Nat):Int) ((R % D:Nat):Int) W)))
 have HM4:=Lib.hid (fun (a:ByteArray) W hG ha=>(Imul_ok (R:Int) (R:Int) a a W hG ha FR ha FR).mono fun e w' h=>h.1 FRR)
 have HEQ:=Lib.hid (fun (t s:ByteArray) (ht:t.data.toList=Lib.itoa ((R:Int) * (R:Int))) (hs:s.data.toList=Lib.itoa (S:Int))=>(by
  rw [show (R:Int) * (R:Int)=((R * R:Nat):Int) by push_cast;rfl,itoa_natCast] at ht
  rw [itoa_natCast] at hs
  rw [Lib.toList_data,Lib.toList_data,ht,hs]
  by_cases h:R * R=S
  ·rw [decide_eq_true h,← h];simp
  ·rw [decide_eq_false h,beq_eq_false_iff_ne]
   exact fun h2=>h (dec_inj h2):(t.toList == s.toList)=decide (R * R=S)))
 have HEZ:=Lib.hid (fun (t:ByteArray) (ht:t.data.toList=Lib.itoa ((R % D:Nat):Int))=>(by
  rw [Lib.toList_data,ht]
  by_cases h:R % D=0
  ·rw [decide_eq_true h,h];decide +kernel
  ·rw [decide_eq_false h,beq_eq_false_iff_ne]
   exact itoa_ne0 (by omega):(t.toList == [48])=decide (R % D=0)))
 generalize R / D=Q at *
 have HA1:=Lib.hid (fun (a:ByteArray) W hG ha=>(Iadd_ok (Q:Int) 1 a ⟨#[49]⟩ W hG ha FQ (by decide +kernel) (by unfold Fit;decide +kernel)).mono fun e w' h=>h.1 FQ1)
 have fneg:∀ x:Int,Fit x→Fit (0 - x):=fun x h=>fit_le (by omega) h
 have HN1:=Lib.hid (fun (a:ByteArray) W hG ha=>(Isub_ok 0 (Q:Int) ⟨#[48]⟩ a W hG (by decide +kernel) (by unfold Fit;decide +kernel) ha FQ).mono fun e w' h=>h.1 (fneg _ FQ))
 have HN2:=Lib.hid (fun (a:ByteArray) W hG ha=>(Isub_ok 0 ((Q:Int)+1) ⟨#[48]⟩ a W hG (by decide +kernel) (by unfold Fit;decide +kernel) ha FQ1).mono fun e w' h=>h.1 (fneg _ FQ1))
 have HRP:=Lib.hid (fun W=>repeat0_any (2 * p) W (by omega))
 have hw2:IntKind.i64.wrap (2 * (p:Int))=((2 * p:Nat):Int):=IntWalk.i64_in _ (by omega)
 have HIB:=Lib.hid (fun (a:ByteArray) ha=>itoa_byte (N:=N) (a:=a) ha)
 have HF1:=Lib.hid f1
 have HF2:=Lib.hid f2
 have HF3:=Lib.hid f3
 have HG:=Lib.hid hG
 obtain ⟨bn,hbn⟩:∃ b,decide (N < 0)=b:=⟨_,rfl⟩
 rw [hbn] at HIB
 have HBN:=Lib.hid hbn
 clear hbn f1 f2 f3 hG hc hr hq hm hri hN hD hD0 hN1 hD1 hS hV hUL hSe hU hm1 hU1 F0 F1 Fm F2 FU F3 FD hR hRS FRR FR FQ FQ1 fneg
 go_enter Tryz.func108,Tryz.ntmps108
 go_wp2_with fail
 have hb0:Below w.heap.size w (w.alloc (.cells #[.string c,.string r] 70)):=qbl
 have x0:(w.alloc (.cells #[.string c,.string r] 70)).cell? ⟨w.heap.size,1,none⟩=some (.string r):=by simp [go_sem]
 generalize w.alloc (.cells #[.string c,.string r] 70)=W0 at *
 refine (HPA.out _ (HG.out.below hb0)).mono ?_
 rintro e w1 ⟨sn,sd,hn,hd,rfl,hB1⟩
 have hb1:=below_trans' hb0 hB1
 have x1:=keep hB1 x0
 obtain ⟨h0,hby⟩:=HIB.out sn hn.out
 clear hB1 HPA hb0 x0 HIB
 go_wp2_with fail
 refine (HM1.out sn _ (HG.out.below hb1) hn.out).mono ?_
 rintro e w2 ⟨s1,h1,rfl,hB2⟩
 have hb2:=below_trans' hb1 hB2
 have x2:=keep hB2 x1
 have H1:=Lib.hid h1
 clear hB2 HM1 hb1 x1 h1 hn
 go_wp2_with fail
 refine (HM2.out s1 _ (HG.out.below hb2) H1.out).mono ?_
 rintro e w3 ⟨s2,h2,rfl,hB3⟩
 have hb3:=below_trans' hb2 hB3
 have H2:=Lib.hid h2
 clear hB3 HM2 hb2 x2 h2 H1
 go_wp2_with fail
 refine (HRP.out _).mono ?_
 rintro e w4 ⟨rp,hrp,rfl,hB4⟩
 have hb4:=below_trans' hb3 hB4
 have HT:=Lib.hid (HTX.out rp hrp)
 have hzr:rp.size≤300:=by
  have h1:rp.size=rp.data.toList.length:=rfl
  rw [h1,hrp];simp;omega
 clear hB4 HRP hb3 hrp HTX
 go_wp2_with fail
 generalize ((⟨#[49]⟩:ByteArray)++rp)=TX at *
 refine (HM3.out s2 TX _ (HG.out.below hb4) H2.out HT.out).mono ?_
 rintro e w5 ⟨s3,h3,rfl,hB5⟩
 have hb5:=below_trans' hb4 hB5
 have H3:=Lib.hid h3
 clear hB5 HM3 hb4 h3 H2 HT hzr
 go_wp2_with fail
 refine (HRT.out s3 _ (HG.out.below hb5) H3.out).mono ?_
 rintro e w6 ⟨s4,h4,rfl,hB6⟩
 have hb6:=below_trans' hb5 hB6
 have H4:=Lib.hid h4
 clear hB6 HRT hb5 h4
 go_wp2_with fail
 refine (HDV.out s4 sd _ (HG.out.below hb6) H4.out hd.out).mono ?_
 rintro e w7 ⟨s5,s6,h5,h6,rfl,hB7⟩
 have hb7:=below_trans' hb6 hB7
 have H5:=Lib.hid h5
 have he6:=HEZ.out s6 h6
 clear hB7 HDV hb6 h5 h6 hd HEZ
 cases bn
 ·have HV:Hid (V=(Q:Int)):=Lib.hid (HF1.out (by have:=of_decide_eq_false HBN.out;omega))
  clear HF1 HF2 HF3 HBN he6
  go_wp2_with fail
  go_ret
  exact ⟨s5,by rw [HV.out];exact H5.out,rfl,hb7⟩
 ·have hneg:=of_decide_eq_true HBN.out
  have G2:=Lib.hid (HF2.out hneg)
  have G3:=Lib.hid (HF3.out hneg)
  clear HF1 HF2 HF3 HBN hneg
  go_wp2_with fail
  refine (HM4.out s4 _ (HG.out.below hb7) H4.out).mono ?_
  rintro e w8 ⟨s7,h7,rfl,hB8⟩
  have hb8:=below_trans' hb7 hB8
  have he7:=HEQ.out s7 s3 h7 H3.out
  clear hB8 HM4 hb7 h7 HEQ
  by_cases e1:R * R=S
  ·rw [decide_eq_true e1] at he7
   by_cases e2:R % D=0
   ·rw [decide_eq_true e2] at he6
    have HV:=Lib.hid (G2.out ⟨e1,e2⟩)
    clear G2 G3 e1 e2
    go_wp2_with fail
    refine (HN1.out s5 _ (HG.out.below hb8) H5.out).mono ?_
    rintro e w9 ⟨s8,h8,rfl,hB9⟩
    have hb9:=below_trans' hb8 hB9
    have H8:=Lib.hid h8
    clear hB9 h8
    go_wp2_with fail
    go_ret
    exact ⟨s8,by rw [HV.out];exact H8.out,rfl,hb9⟩
   ·rw [decide_eq_false e2] at he6
    have HV:=Lib.hid (G3.out fun h=>e2 h.2)
    clear G2 G3 e1 e2
    go_wp2_with fail
    refine (HA1.out s5 _ (HG.out.below hb8) H5.out).mono ?_
    rintro e w9 ⟨s8,h8,rfl,hB9⟩
    have hb9:=below_trans' hb8 hB9
    have H8:=Lib.hid h8
    clear hB9 h8
    go_wp2_with fail
    refine (HN2.out s8 _ (HG.out.below hb9) H8.out).mono ?_
    rintro e w10 ⟨s9,h9,rfl,hB10⟩
    have hb10:=below_trans' hb9 hB10
    have H9:=Lib.hid h9
    clear hB10 h9
    go_wp2_with fail
    go_ret
    exact ⟨s9,by rw [HV.out];exact H9.out,rfl,hb10⟩
  ·rw [decide_eq_false e1] at he7
   have HV:=Lib.hid (G3.out fun h=>e1 h.1)
   clear G2 G3 e1 he6
   go_wp2_with fail
   refine (HA1.out s5 _ (HG.out.below hb8) H5.out).mono ?_
   rintro e w9 ⟨s8,h8,rfl,hB9⟩
   have hb9:=below_trans' hb8 hB9
   have H8:=Lib.hid h8
   clear hB9 h8
   go_wp2_with fail
   refine (HN2.out s8 _ (HG.out.below hb9) H8.out).mono ?_
   rintro e w10 ⟨s9,h9,rfl,hB10⟩
   have hb10:=below_trans' hb9 hB10
   have H9:=Lib.hid h9
   clear hB10 h9
   go_wp2_with fail
   go_ret
   exact ⟨s9,by rw [HV.out];exact H9.out,rfl,hb10⟩
end Go.Proofs.YtbbclfbpllbbbaaGreatDoor
namespace Go.Proofs.YtbbclfbpllbbbaaGreatDoor
open Go.RowKit Go.Shelf
def placesL:List Value:=[.int .i64 4,.int .i64 16,.int .i64 64]
def placesV:Value:=.agg placesL.toArray
theorem places_get {j:Nat} (h:j < 3):placesL[j]?=some (.int .i64 (plN j:Int)):=by
 have:j=0∨j=1∨j=2:=by omega
 rcases this with rfl|rfl|rfl<;>rfl
def SPl (w:World):Prop:=∀ j,j < 3→w.cell? ⟨0,j,none⟩=some (.int .i64 (plN j:Int))
theorem SPl.below {w w':World} (h:SPl w) (hB:Below w.heap.size w w'):SPl w':=fun i hi=>keep hB (h i hi)
theorem spl_cells {w:World} (h:SPl w):Sem.run Tryz.prog (loadCellsFrom ⟨0,0,none⟩ 0 3 #[]) w=.ok placesL.toArray w:=by
 have key:=run_loadCells_list (P:=Tryz.prog) (w:=w) ⟨0,0,none⟩ placesL ?_
 ·simpa [loadCells,placesL] using key
 intro j v hj
 have hlt:j < 3:=(List.getElem?_eq_some_iff.1 hj).1
 rw [addr_add',Nat.zero_add]
 rw [places_get hlt] at hj
 injection hj with hj
 rw [← hj]
 exact h j hlt
theorem spl_load {w:World} (h:SPl w):(loadVar 184 ⟨0,0,none⟩).run Tryz.prog w=.ok placesV w:=by
 have hl:=spl_cells h
 have ha:=Tryz.isAgg184
 have hz:=Tryz.sizeOf184
 simp only [loadVar,loadCells,Sem.run_bind,ha,hz,hl,Result.andThen_ok,Sem.run_pure,if_true,Sem.run_ite]
 rfl
theorem wpList_spl {ops:Array Oper} {rest:List Oper} {o:Oper} {a:Act} {Q:Exit→Act→World→Prop} {w:World} (hg:o.guard=none) (p:Operand) (ho:o.op=.load 184 p) (hP:SPl w)
  (hp:a.eval p=.pointer (some ⟨0,0,none⟩)) (h:wpList Tryz.prog ops Q rest (a.put o.dst placesV) w):wpList Tryz.prog ops Q (o::rest) a w :=
 wpList_plain hg fun _ hK=>by
  unfold Oper.wp execOp
  simp only [ho,hp,Instr.loadAt,Instr.sureAddr,Sem.run_bind,Sem.run_pure,Result.andThen_ok,spl_load hP]
  exact hK _ _ h
theorem spl_index (i:Nat) (h:i < 3) (W:World):(Instr.index 184 placesV (.int .i64 (i:Int))).run Tryz.prog W=.ok (.int .i64 (plN i:Int)) W:=by
 have hu:=Tryz.underlying184
 have h1:(0:Int)≤(i:Int)∧(i:Int) < 3:=by omega
 have hs:=Tryz.sizeOf3
 have ha:=Tryz.isAgg3
 have hg:=places_get h
 unfold Instr.index placesV
 simp [go_sem,hu,hs,ha,h1,hg,h,asIntOf,part]
theorem RetS.it {z:Int} {w w':World} {e:Ending} (h:RetS (Lib.itoa z) w e w'):RetB (.string (itS z)) w e w':=by
 obtain ⟨s,hs,he,hB⟩:=h
 obtain rfl:=itS_of hs
 exact ⟨he,hB⟩
theorem RetI.it {z:Int} {w w':World} {e:Ending} (h:RetI z w e w'):RetB (.tuple #[.string (itS z),.int .i64 0]) w e w':=by
 obtain ⟨s,hs,he,hB⟩:=h
 obtain rfl:=itS_of hs
 exact ⟨he,hB⟩
theorem sign_ok (T:Terms) (v:Value) (w:World) (hG:Glo w) (hS:SPl w) (hv:IsTerms w v (clsL T)) (hm:Mid60 T) (hl:T.length≤12) :
  Calls Tryz.prog 57 #[v] w (RetB (.tuple #[.int .i64 (sgnF T).1,.int .i64 (sgnF T).2]) w):=by
 have hlen:=clsL_length T
 obtain ⟨a,cap,rfl,hcap,hc⟩:=hv
 have HC:=Lib.hid hc
 rw [hlen] at hcap ⊢
 by_cases h0:T=[]
 ·subst h0
  clear hc HC hG hS
  have e:(sgnF [])=(0,0):=rfl
  rw [e]
  go_enter Tryz.func57,Tryz.ntmps57
  go_wp2_with fail
  refine bodyPost_ret (v:=.tuple #[.int .i64 0,.int .i64 0]) (by simp [results,Tryz.results57,go_sem]) rfl ?_
  exact ⟨rfl,qbl⟩
 ·have hl0:¬ ((T.length:Int)=0):=by
   have:=List.length_pos_iff.2 h0
   omega
  have hRES:sgnF T=sgnL [4,16,64] T:=if_neg h0
  rw [hRES]
  obtain ⟨rs,rc,hR⟩:∃ rs rc,sgnL [4,16,64] T=(rs,rc):=by
   cases sgnL [4,16,64] T with|mk x y=>exact ⟨x,y,rfl⟩
  rw [hR]
  have HR0:=Lib.hid hR
  have HG:=Lib.hid hG
  have HS:=Lib.hid hS
  have HLN:=Lib.hid hlen
  have hFI:=Lib.hid (fun (p:Nat) (hp:p≤64) (x:Rat × Nat) (hx:x ∈ T) W hG=>(sfloor_ok x.1 x.2 p (numS x.1) (decS x.2) W hG (numS_list _) (decS_list _) (hm x hx).1 (hm x hx).2 hp).mono fun e w' h=>h.it)
  have hFA:=Lib.hid (fun (p:Nat) (hp:p≤64) (k:Nat) (x:Rat × Nat) (hx:x ∈ T) W hG=>(Iadd_ok (flS p (T.take k)) (flI x.1 x.2 p) (itS _) (itS _) W hG (itS_list _) (by
    have:=flS_fit (hm.take k) hp (by rw [List.length_take];omega) 0 (by decide)
    simpa using this) (itS_list _) (flI_fit (hm x hx).1 (hm x hx).2 hp)))
  have hFF:=Lib.hid (fun (p:Nat) (hp:p≤64) (k:Nat)=>(by
    have:=flS_fit (hm.take k) hp (by rw [List.length_take];omega) 0 (by decide)
    simpa using this:Fit (flS p (T.take k))))
  have hF1:=Lib.hid (fun (p:Nat) (hp:p≤64) (k:Nat) (hk:k≤12)=>flS_fit hm hp hl k hk)
  clear hc hG hS hR hRES hm h0 hlen
  go_enter Tryz.func57,Tryz.ntmps57
  go_wp2_with (refine wpList_spl rfl _ rfl HS.out rfl ?_)
  go_loopw [17] (fun i wr=>∃ j:Nat,j≤3∧i=.int .i64 j∧Hid (sgnL ([4,16,64].drop j) T=(rs,rc))∧Below w.heap.size w wr) (fun i _=>3 - (intOf i).toNat)
  case atStart=>exact ⟨0,by omega,rfl,HR0,bw0 _ _⟩
  case round =>
   clear HR0
   obtain ⟨j,hj,rfl,HJ,hB⟩:=hrel
   by_cases hlt:j < 3
   ·have hix:=fun W=>spl_index j hlt W
    have hp64:=plN_le hlt
    have hdr:=pl_drop hlt
    have hla:=pl_last hlt
    obtain ⟨p,hp⟩:∃ p,plN j=p:=⟨_,rfl⟩
    rw [hp] at hix hp64 hdr
    obtain ⟨ps,hps⟩:∃ ps,[4,16,64].drop (j+1)=ps:=⟨_,rfl⟩
    rw [hps] at hdr hla
    have HPS:=Lib.hid hps
    have HSL:Hid ((if 0 < flS p T then ((1:Int),(0:Int)) else if flS p T+(T.length:Int) < 0∨(flS p T+(T.length:Int)=0∧ps=[]) then (-1,0) else sgnL ps T)=(rs,rc)):=Lib.hid (by
     have h:=HJ.out
     rw [hdr] at h
     exact h)
    have HLA:=Lib.hid hla
    have hjI:(j:Int) < 3:=by omega
    have hj1:IntKind.i64.wrap ((j:Int)+1)=((j+1:Nat):Int):=IntWalk.i64_in _ (by omega)
    have hsv:(⟨#[48]⟩:ByteArray)=itS (flS p (T.take 0)):=itS_of (by rw [List.take_zero];show (⟨#[48]⟩:ByteArray).data.toList=Lib.itoa 0;decide +kernel)
    have HSV:=Lib.hid hsv
    clear hdr hla hp hps HJ hsv
    go_wp2_with fail
    obtain ⟨wo,rfl⟩:∃ wo:World,wo=wr:=⟨_,rfl⟩
    go_loopw [6,23] (fun s i wr=>∃ k:Nat,k≤T.length∧i=.int .i64 k∧s=.string (itS (flS p (T.take k)))∧Below w.heap.size w wr) (fun _ i _=>T.length - (intOf i).toNat)
    case atStart=>exact ⟨0,by omega,rfl,by rw [← HSV.out],hB⟩
    case round =>
     clear HSV
     obtain ⟨k,hk,rfl,rfl,hB2⟩:=hrel
     by_cases hkl:k < T.length
     ·obtain ⟨b,off,rfl,hcell⟩:=HC.out (fun h=>by have:=HLN.out;rw [h] at this;simp at this;omega)
      obtain ⟨d0,d1⟩:=(hcell k (by rw [HLN.out];exact hkl)).below (w':=wr) hB2
      rw [clsL_get hkl] at d0 d1
      have hx:=tq_mem hkl
      have H1:=Lib.hid (hFI.out p hp64 _ hx)
      have H2:=Lib.hid (hFA.out p hp64 k _ hx)
      have hst:flS p (T.take (k+1))=flS p (T.take k)+flI (tq T k).1 (tq T k).2 p:=by rw [termsTake hkl,flS_snoc]
      rw [← hst] at H2
      have H3:=Lib.hid (hFF.out p hp64 (k+1))
      generalize tq T k=x at *
      obtain ⟨c,m⟩:=x
      dsimp only at d0 d1 H1 H2
      obtain ⟨S1,hS1⟩:∃ S,flS p (T.take (k+1))=S:=⟨_,rfl⟩
      rw [hS1] at H2 H3
      have HS1:=Lib.hid hS1
      generalize flI c m p=Y at *
      generalize numS c=sc at *
      generalize decS m=sm at *
      generalize itS Y=sY at *
      generalize itS (flS p (T.take k))=sS at *
      have hkI:(k:Int) < (T.length:Int):=by omega
      have hk1:IntKind.i64.wrap ((k:Int)+1)=((k+1:Nat):Int):=IntWalk.i64_in _ (by omega)
      have hb1:Below w.heap.size w (wr.alloc (.cells #[.string sc,.string sm] 70)):=bw4 hB2 _
      have y0:BoxT2 70 (wr.alloc (.cells #[.string sc,.string sm] 70)) wr.heap.size (.string sc) (.string sm):=BoxT2.new rfl
      clear hcell hx hst hS1
      go_wp2_with fail
      generalize wr.alloc (.cells #[.string sc,.string sm] 70)=W1 at *
      refine (H1.out _ (HG.out.below hb1)).mono ?_
      rintro e w2 ⟨rfl,hB3⟩
      have hb2:=below_trans' hb1 hB3
      clear hB3 hb1 H1 y0
      go_wp2_with fail
      refine (H2.out _ (HG.out.below hb2)).mono ?_
      intro e w3 hr
      obtain ⟨rfl,hB4⟩:=(hr.1 H3.out).it
      have hb3:=below_trans' hb2 hB4
      clear hB4 hb2 H2 hr
      go_wp2_with fail
      go_roundw
      case rel=>exact ⟨k+1,by omega,by go_num,by rw [HS1.out],hb3⟩
      case measure=>simp [intOf];omega
     ·obtain rfl:k=T.length:=by omega
      have hF0:=hFF.out p hp64 T.length
      have hF2:=Lib.hid (hF1.out p hp64)
      have hFQ:=Lib.hid (fun W=>ICompare_ok (flS p (T.take T.length)) 0 (itS _) ⟨#[48]⟩ W (itS_list _) hF0 (by decide +kernel) (by unfold Fit;decide +kernel))
      have hSI:Hid (flS p (T.take T.length)=flS p T):=Lib.hid (by rw [List.take_length])
      rw [hSI.out] at hFQ
      obtain ⟨s0,hs0⟩:∃ s,itS (flS p (T.take T.length))=s:=⟨_,rfl⟩
      rw [hs0]
      rw [hSI.out] at hs0
      rw [hs0] at hFQ
      have HS0:=Lib.hid hs0
      obtain ⟨S,hSS⟩:∃ S,flS p T=S:=⟨_,rfl⟩
      rw [hSS] at hFQ HSL hF2 HS0
      have hcm:=cmp0 S
      obtain ⟨o,ho⟩:∃ o,Lib.compareInt S 0=o:=⟨_,rfl⟩
      rw [ho] at hFQ hcm
      clear hF0 hFI hFA hFF hF1 hSI hs0 hSS ho
      rcases hcm with ⟨hS1,rfl⟩|hcm
      ·have HE:Hid (((1:Int),(0:Int))=(rs,rc)):=Lib.hid (by have h:=HSL.out;rw [if_pos hS1] at h;exact h)
       clear HSL hS1
       go_wp2_with fail
       refine (hFQ.out _).mono ?_
       rintro e w4 ⟨rfl,hB5⟩
       have hb4:=below_trans' hB2 hB5
       clear hB5
       go_wp2_with fail
       refine bodyPost_ret (v:=.tuple #[.int .i64 1,.int .i64 0]) (by simp [results,Tryz.results57,go_sem]) rfl ?_
       have h:=HE.out
       cases h
       exact ⟨rfl,hb4⟩
      ·have hS1:¬ 0 < S:=by omega
       have ho1:¬ 0 < o:=by omega
       have HSL2:Hid ((if S+(T.length:Int) < 0∨(S+(T.length:Int)=0∧ps=[]) then (-1,0) else sgnL ps T)=(rs,rc)):=Lib.hid (by have h:=HSL.out;rw [if_neg hS1] at h;exact h)
       clear HSL hcm hS1
       go_wp2_with fail
       refine (hFQ.out _).mono ?_
       rintro e w4 ⟨rfl,hB5⟩
       have hb4:=below_trans' hB2 hB5
       clear hB5
       have HS00:Hid (s0=itS (S+((0:Nat):Int))):=Lib.hid (by rw [← HS0.out];simp)
       go_wp2_with fail
       go_loopw [6,45] (fun s i wq=>∃ k:Nat,k≤T.length∧i=.int .i64 k∧s=.string (itS (S+(k:Int)))∧Below w.heap.size w wq) (fun _ i _=>T.length - (intOf i).toNat)
       case atStart=>exact ⟨0,by omega,rfl,by rw [HS00.out],hb4⟩
       case round =>
        clear HS00 HS0 hFQ
        obtain ⟨k,hk,rfl,rfl,hB6⟩:=hrel
        by_cases hkl:k < T.length
        ·have H1:=Lib.hid (fun W hG=>Iadd_ok (S+(k:Int)) 1 (itS _) ⟨#[49]⟩ W hG (itS_list _) (hF2.out k (by omega)) (by decide +kernel) (by unfold Fit;decide +kernel))
         have e1:S+(k:Int)+1=S+((k+1:Nat):Int):=by omega
         rw [e1] at H1
         have H3:=Lib.hid (hF2.out (k+1) (by omega))
         have hkI:(k:Int) < (T.length:Int):=by omega
         have hk1:IntKind.i64.wrap ((k:Int)+1)=((k+1:Nat):Int):=IntWalk.i64_in _ (by omega)
         obtain ⟨S1,hS1⟩:∃ x,S+((k+1:Nat):Int)=x:=⟨_,rfl⟩
         rw [hS1] at H1 H3
         have HS1:=Lib.hid hS1
         generalize itS (S+(k:Int))=sS at *
         clear e1 hS1
         go_wp2_with fail
         refine (H1.out _ (HG.out.below hB6)).mono ?_
         intro e w5 hr
         obtain ⟨rfl,hB7⟩:=(hr.1 H3.out).it
         have hb7:=below_trans' hB6 hB7
         clear hB7 H1 hr
         go_wp2_with fail
         go_roundw
         case rel=>exact ⟨k+1,by omega,by go_num,by rw [HS1.out],hb7⟩
         case measure=>simp [intOf];omega
        ·obtain rfl:k=T.length:=by omega
         have HCM:=Lib.hid (fun W=>ICompare_ok (S+(T.length:Int)) 0 (itS _) ⟨#[48]⟩ W (itS_list _) (hF2.out T.length hl) (by decide +kernel) (by unfold Fit;decide +kernel))
         generalize itS (S+(T.length:Int))=sS at *
         obtain ⟨Z,hZ⟩:∃ Z,S+(T.length:Int)=Z:=⟨_,rfl⟩
         rw [hZ] at HCM HSL2
         have hcm:=cmp0 Z
         obtain ⟨o2,ho2⟩:∃ o,Lib.compareInt Z 0=o:=⟨_,rfl⟩
         rw [ho2] at HCM hcm
         clear hZ ho2 hF2
         rcases hcm with ⟨hz,rfl⟩|⟨hz,rfl⟩|⟨hz,rfl⟩
         ·have HN:Hid (sgnL ([4,16,64].drop (j+1)) T=(rs,rc)):=Lib.hid (by have h:=HSL2.out;rw [if_neg (by omega)] at h;rw [HPS.out];exact h)
          clear HSL2 hz
          go_wp2_with fail
          refine (HCM.out _).mono ?_
          rintro e w5 ⟨rfl,hB7⟩
          have hb7:=below_trans' hB6 hB7
          clear hB7 HCM
          go_wp2_with fail
          go_roundw
          case rel=>exact ⟨j+1,by omega,by go_num,HN,hb7⟩
          case measure=>simp [intOf];omega
         ·by_cases hj2:j=2
          ·have HN:Hid (((-1:Int),(0:Int))=(rs,rc)):=Lib.hid (by have h:=HSL2.out;rw [if_pos (.inr ⟨hz,HLA.out.2 hj2⟩)] at h;exact h)
           subst hj2
           clear HSL2 hz
           go_wp2_with fail
           refine (HCM.out _).mono ?_
           rintro e w5 ⟨rfl,hB7⟩
           have hb7:=below_trans' hB6 hB7
           clear hB7 HCM
           go_wp2_with fail
           refine bodyPost_ret (v:=.tuple #[.int .i64 (-1),.int .i64 0]) (by simp [results,Tryz.results57,go_sem]) rfl ?_
           have h:=HN.out
           cases h
           exact ⟨rfl,hb7⟩
          ·have HN:Hid (sgnL ([4,16,64].drop (j+1)) T=(rs,rc)):=Lib.hid (by
            have h:=HSL2.out
            rw [if_neg (fun h2=>h2.elim (fun h3=>by omega) (fun h3=>hj2 (HLA.out.1 h3.2)))] at h
            rw [HPS.out];exact h)
           have hj3:decide (((j+1:Nat):Int)=3)=false:=by simp;omega
           have hj3':¬ ((j+1:Nat):Int)=3:=by omega
           clear HSL2 hz
           go_wp2_with fail
           refine (HCM.out _).mono ?_
           rintro e w5 ⟨rfl,hB7⟩
           have hb7:=below_trans' hB6 hB7
           clear hB7 HCM
           go_wp2_with fail
           go_roundw
           case rel=>exact ⟨j+1,by omega,by go_num,HN,hb7⟩
           case measure=>simp [intOf];omega
         ·have HN:Hid (((-1:Int),(0:Int))=(rs,rc)):=Lib.hid (by have h:=HSL2.out;rw [if_pos (.inl hz)] at h;exact h)
          clear HSL2 hz
          go_wp2_with fail
          refine (HCM.out _).mono ?_
          rintro e w5 ⟨rfl,hB7⟩
          have hb7:=below_trans' hB6 hB7
          clear hB7 HCM
          go_wp2_with fail
          refine bodyPost_ret (v:=.tuple #[.int .i64 (-1),.int .i64 0]) (by simp [results,Tryz.results57,go_sem]) rfl ?_
          have h:=HN.out
          cases h
          exact ⟨rfl,hb7⟩
   ·obtain rfl:j=3:=by omega
    have HN:Hid (((0:Int),(4:Int))=(rs,rc)):=HJ
    clear HJ
    go_wp2_with fail
    refine bodyPost_ret (v:=.tuple #[.int .i64 0,.int .i64 4]) (by simp [results,Tryz.results57,go_sem]) rfl ?_
    have h:=HN.out
    cases h
    exact ⟨rfl,hB⟩
end Go.Proofs.YtbbclfbpllbbbaaGreatDoor
namespace Go.Proofs.YtbbclfbpllbbbaaGreatDoor
open Go.RowKit
def Erg (w:World):Prop:=∃ te pe,w.cell? ⟨5,0,none⟩=some (.iface te pe)
theorem Erg.below {w w':World} (h:Erg w) (hB:Below w.heap.size w w'):Erg w':=by
 obtain ⟨te,pe,h⟩:=h
 exact ⟨te,pe,keep hB h⟩
structure Wor (w:World):Prop where
 glo:Glo w
 pri:Pri w
 spl:SPl w
 erg:Erg w
theorem Wor.below {w w':World} (h:Wor w) (hB:Below w.heap.size w w'):Wor w':=⟨h.glo.below hB,h.pri.below hB,h.spl.below hB,h.erg.below hB⟩
theorem trod_ifaceD {P:Program} {w:World} {fuel:Nat} {t:TypeId} {cs:List Value} {n:String} {d:DataW Unit} {p:List MemPlace} {ms} (ht:P.underlying t=some (.interface ms))
  (h:DataW.trod (fun _=>()) P w 0 (fun _=>true) false fuel t cs=some (.iface n d,p)):∃ te pe,cs=[.iface te pe]:=by
 cases fuel with
 | zero=>simp [DataW.trod] at h
 | succ f =>
  unfold DataW.trod at h
  rw [ht] at h
  split at h<;>simp_all
theorem gErr4 : Tryz.prog.globalNamed "strconv.ErrRange" = some 5 := by kernel_rfl
theorem tErr4:(Tryz.prog.globals[5]?).map (·.type)=some 79:=by kernel_rfl
theorem gSpl4 : Tryz.prog.globalNamed "kingpost/surd.signPlaces" = some 0 := by kernel_rfl
theorem tSpl4:(Tryz.prog.globals[0]?).map (·.type)=some 184:=by kernel_rfl
theorem cSpl4:Tryz.prog.cellsOf 184=3:=by kernel_rfl
theorem cInt4:Tryz.prog.cellsOf 3=1:=by kernel_rfl
theorem uErr4:∃ ms,Tryz.prog.underlying 79=some (.interface ms):=⟨_,Tryz.underlying79⟩
theorem erg_of {W : World} {n : String} {d : DataW Unit} {rest : List (String × DataW Unit)} (h : laidMet Tryz.prog (("strconv.ErrRange", .iface n d) :: rest) W) : Erg W := by
 obtain ⟨ps,⟨g',t',cs,fuel,p,q,hg',ht',hvar,hd,_,_⟩,_⟩:=h
 obtain rfl:=Option.some.inj (gErr4.symm.trans hg')
 obtain rfl:=Option.some.inj (tErr4.symm.trans ht')
 obtain ⟨ms,hu⟩:=uErr4
 obtain ⟨te,pe,hc⟩:=trod_ifaceD hu hd
 refine ⟨te,pe,?_⟩
 have h2:=World.var?_cell gErr4 hvar 0
 rw [h2]
 have:cs=#[.iface te pe]:=by
  cases cs with|mk l=>simp at hc;rw [hc]
 rw [this];rfl
theorem laid_spl {H:Type}:(Rows.laid_kingpost_surd_signPlaces:DataW H)=Lib.tabData .i64 [4,16,64]:=rfl
theorem spl_of {W : World} {rest : List (String × DataW Unit)} (h : laidMet Tryz.prog (("kingpost/surd.signPlaces", Rows.laid_kingpost_surd_signPlaces) :: rest) W) : SPl W := by
 rw [laid_spl] at h
 have h1:=Lib.tabIs_of_head gSpl4 tSpl4 Tryz.underlying184 Tryz.underlying3 cInt4 cSpl4 h
 intro i hi
 have h2:=h1.cell gSpl4 i hi
 rw [h2]
 have:i=0∨i=1∨i=2:=by omega
 rcases this with rfl|rfl|rfl<;>rfl
theorem wor_of {W : World} {x1 x2 x4 x6 : String × DataW Unit} {rest : List (String × DataW Unit)} (hL : laidMet Tryz.prog (x1 :: x2 :: ("internal/strconv.uint64pow10", Rows.laid_internal_strconv_uint64pow10) :: x4 :: ("strconv.ErrRange", Rows.laid_strconv_ErrRange) :: x6 :: ("kingpost/root.primes", Rows.laid_kingpost_root_primes) :: ("kingpost/surd.signPlaces", Rows.laid_kingpost_surd_signPlaces) :: rest) W) (hsh : W.ShapedOpen Tryz.prog) : Wor W := by
 obtain ⟨h1,h2⟩:=glo3_of hL hsh
 have h4:=laidMet_tail3 (laidMet_tail3 (laidMet_tail3 (laidMet_tail3 hL)))
 have h7:=laidMet_tail3 (laidMet_tail3 (laidMet_tail3 h4))
 exact ⟨h1,h2,spl_of h7,erg_of h4⟩
end Go.Proofs.YtbbclfbpllbbbaaGreatDoor
namespace Go.Proofs.YtbbclfbpllbbbaaGreatDoor
open Go.RowKit Go.Shelf
attribute [local go_sem] Oper.semAt_some
theorem Tryz.infoPair:(Tryz.prog.info? 167).map (·.size)=some 2:=by kernel_rfl
theorem BoxT2.frz {t:TypeId} {W:World} {b:Nat} {x y:Value} (h:BoxT2 t W b x y) (k:Nat):W.frozen? ⟨b,k,none⟩=false:=by simp [World.frozen?,show W.heap[b]?=_ from h]
theorem BoxT2.set0 {t:TypeId} {W:World} {b:Nat} {x y:Value} (h:BoxT2 t W b x y) (v:Value):BoxT2 t (W.setCell ⟨b,0,none⟩ v) b v y:=heap_setCell_at h
theorem wp_storeT2 {P:Program} {o:Oper} {a:Act} {Q:Exit→Act→World→Prop} {K:Act→World→Prop} (ty:TypeId) (p x:Operand) (ho:o.op=.store ty p x) {w:World} {b:Nat} {x0 y0 x1 y1:Value} (hA:BoxT2 ty w b x0 y0)
  (hi:(P.info? ty).map (·.size)=some 2) (h1:x1.oneCell'=true) (h2:y1.oneCell'=true) (hp:a.eval p=.pointer (some ⟨b,0,none⟩)) (hx:a.eval x=.agg #[x1,y1]) (h:∀ W,SameBut b w W→BoxT2 ty W b x1 y1→K (a.put o.dst undef) W):o.wp P a w K Q:=by
 have hrow:=run_storeVar_row (P:=P) w b ty ty #[x0,y0] #[x1,y1] hA hi rfl (by simp [h1,h2])
 unfold Oper.wp execOp
 rw [ho]
 simp only [hp,hx,Sem.run_bind,Instr.storeAt,Instr.sureAddr,Sem.run_pure,Result.andThen_ok,hrow]
 exact h _ (setRow_sameBut _ _ _) (setRow_at hA)
theorem pTimes_ok (a b c d:Nat) (w:World) (hG:Glo w) (ha:Fit (a:Int)) (hb:Fit (b:Int)) (hc:Fit (c:Int)) (hd:Fit (d:Int)) (h1:Fit ((a * c:Nat):Int)) (h2:Fit ((b * d:Nat):Int)) :
  Calls Tryz.prog 285 #[.agg #[.string (decS a),.string (decS b)],.agg #[.string (decS c),.string (decS d)]] w (RetB (.agg #[.string (decS (a * c)),.string (decS (b * d))]) w):=by
 have H1:=Lib.hid (fun W (hB:Below w.heap.size w W)=>mulN_ok a c W (hG.below hB) ha hc h1)
 have H2:=Lib.hid (fun W (hB:Below w.heap.size w W)=>mulN_ok b d W (hG.below hB) hb hd h2)
 generalize decS (a * c)=X at *
 generalize decS (b * d)=Y at *
 generalize decS a=sa at *
 generalize decS b=sb at *
 generalize decS c=sc at *
 generalize decS d=sd at *
 clear hG ha hb hc hd h1 h2
 go_enter Tryz.func285,Tryz.ntmps285
 go_wp2_with fail
 have hb0:Below w.heap.size w (((w.alloc (.cells #[.string sa,.string sb] 167)).alloc (.cells #[.string sc,.string sd] 167)).alloc (.cells #[.string ⟨#[]⟩,.string ⟨#[]⟩] 167)):=qbl
 have x0:BoxT2 167 (((w.alloc (.cells #[.string sa,.string sb] 167)).alloc (.cells #[.string sc,.string sd] 167)).alloc (.cells #[.string ⟨#[]⟩,.string ⟨#[]⟩] 167)) w.heap.size (.string sa) (.string sb):=((BoxT2.new rfl).below (bw4 (bw0 _ _) _)).below (bw4 (bw0 _ _) _)
 have x1:BoxT2 167 (((w.alloc (.cells #[.string sa,.string sb] 167)).alloc (.cells #[.string sc,.string sd] 167)).alloc (.cells #[.string ⟨#[]⟩,.string ⟨#[]⟩] 167)) (w.heap.size+1) (.string sc) (.string sd):=(BoxT2.new (by simp)).below (bw4 (bw0 _ _) _)
 have x2:BoxT2 167 (((w.alloc (.cells #[.string sa,.string sb] 167)).alloc (.cells #[.string sc,.string sd] 167)).alloc (.cells #[.string ⟨#[]⟩,.string ⟨#[]⟩] 167)) (w.heap.size+2) (.string ⟨#[]⟩) (.string ⟨#[]⟩):=BoxT2.new (by simp)
 generalize (((w.alloc (.cells #[.string sa,.string sb] 167)).alloc (.cells #[.string sc,.string sd] 167)).alloc (.cells #[.string ⟨#[]⟩,.string ⟨#[]⟩] 167))=W7 at *
 have hR:Below W7.heap.size W7 W7.drew:=(bw0 _ _).drew
 refine region_S (F:=[11]) (R:=(fun w'=>Below W7.heap.size W7 w')) 12 #[false,false,false,false,false,false,false,false,false,false,false,false] (by kernel_rfl) (by kernel_rfl) (by kernel_rfl) (fun _ _ _ _ _ h=>h) (fun Q' hQ' hN=>?_)
 generalize W7.drew=wd at *
 refine tkS 5 (i:=0) (v:=?_) (fw:=6) hQ' hR rfl ?_ ?_;rotate_left;(focus (intro wq hRq;have c0:=(x0.below hRq).c0;have c1:=(x0.below hRq).c1;have d0:=(x1.below hRq).c0;have d1:=(x1.below hRq).c1;go_simp;(try with_reducible rfl)));(try simp only [Act.put,bw7,bw8,bw9])
 refine tkS 6 (i:=1) (v:=?_) (fw:=6) hQ' hR rfl ?_ ?_;rotate_left;(focus (intro wq hRq;have c0:=(x0.below hRq).c0;have c1:=(x0.below hRq).c1;have d0:=(x1.below hRq).c0;have d1:=(x1.below hRq).c1;go_simp;(try with_reducible rfl)));(try simp only [Act.put,bw7,bw8,bw9])
 refine tkS 7 (i:=2) (v:=?_) (fw:=6) hQ' hR rfl ?_ ?_;rotate_left;(focus (intro wq hRq;have c0:=(x0.below hRq).c0;have c1:=(x0.below hRq).c1;have d0:=(x1.below hRq).c0;have d1:=(x1.below hRq).c1;go_simp;(try with_reducible rfl)));(try simp only [Act.put,bw7,bw8,bw9])
 refine tkS 8 (i:=3) (v:=?_) (fw:=6) hQ' hR rfl ?_ ?_;rotate_left;(focus (intro wq hRq;have c0:=(x0.below hRq).c0;have c1:=(x0.below hRq).c1;have d0:=(x1.below hRq).c0;have d1:=(x1.below hRq).c1;go_simp;(try with_reducible rfl)));(try simp only [Act.put,bw7,bw8,bw9])
 refine tkS 10 (i:=5) (v:=?_) (fw:=6) hQ' hR rfl ?_ ?_;rotate_left;(focus (intro wq hRq;have c0:=(x0.below hRq).c0;have c1:=(x0.below hRq).c1;have d0:=(x1.below hRq).c0;have d1:=(x1.below hRq).c1;go_simp;(try with_reducible rfl)));(try simp only [Act.put,bw7,bw8,bw9])
 refine tkS 11 (i:=6) (v:=?_) (fw:=6) hQ' hR rfl ?_ ?_;rotate_left;(focus (intro wq hRq;have c0:=(x0.below hRq).c0;have c1:=(x0.below hRq).c1;have d0:=(x1.below hRq).c0;have d1:=(x1.below hRq).c1;go_simp;(try with_reducible rfl)));(try simp only [Act.put,bw7,bw8,bw9])
 refine tkS 12 (i:=7) (v:=?_) (fw:=6) hQ' hR rfl ?_ ?_;rotate_left;(focus (intro wq hRq;have c0:=(x0.below hRq).c0;have c1:=(x0.below hRq).c1;have d0:=(x1.below hRq).c0;have d1:=(x1.below hRq).c1;go_simp;(try with_reducible rfl)));(try simp only [Act.put,bw7,bw8,bw9])
 refine tkS 13 (i:=8) (v:=?_) (fw:=6) hQ' hR rfl ?_ ?_;rotate_left;(focus (intro wq hRq;have c0:=(x0.below hRq).c0;have c1:=(x0.below hRq).c1;have d0:=(x1.below hRq).c0;have d1:=(x1.below hRq).c1;go_simp;(try with_reducible rfl)));(try simp only [Act.put,bw7,bw8,bw9])
 refine wpAnyS_ready (rs:=[4]) (by kernel_rfl) (by simp) ?_
 refine stepR (i:=4) rfl (by kernel_rfl) (fun K hK=>?_) (AllReadyS.nil)
 go_simp
 refine (H1.out _ (below_trans' hb0 hR)).mono ?_
 rintro e wn ⟨rfl,hB'⟩
 replace hR:=below_trans' hR hB'
 clear hB'
 refine hK.out _ _ hR ?_
 clear hK K
 (try simp only [Act.put,bw7,bw8,bw9])
 refine wpAnyS_ready (rs:=[9]) (by kernel_rfl) (by simp) ?_
 refine stepR (i:=9) rfl (by kernel_rfl) (fun K hK=>?_) (AllReadyS.nil)
 go_simp
 refine (H2.out _ (below_trans' hb0 hR)).mono ?_
 rintro e wn ⟨rfl,hB'⟩
 replace hR:=below_trans' hR hB'
 clear hB'
 refine hK.out _ _ hR ?_
 clear hK K
 (try simp only [Act.put,bw7,bw8,bw9])
 refine tkS 15 (i:=10) (v:=?_) (fw:=6) hQ' hR rfl ?_ ?_;rotate_left;(focus (intro wq hRq;have c0:=(x0.below hRq).c0;have c1:=(x0.below hRq).c1;have d0:=(x1.below hRq).c0;have d1:=(x1.below hRq).c1;go_simp;(try with_reducible rfl)));(try simp only [Act.put,bw7,bw8,bw9])
 refine wpAnyS_ready (rs:=[11]) (by kernel_rfl) (by simp) ?_
 refine stepF (i:=11) rfl (by kernel_rfl) (by kernel_rfl) (fun K hK=>?_) (AllReadyS.nil)
 refine wp_storeT2 _ _ _ rfl (x2.below hR) Tryz.infoPair rfl rfl rfl rfl (fun wx hS hx2=>?_)
 have hbz:Below w.heap.size w wx:=hS.below (below_trans' hb0 hR) (by omega)
 refine hK.out _ _ ?_
 clear hK K
 (try simp only [Act.put,bw7,bw8,bw9])
 refine wpAnyS_done (by kernel_rfl) ?_ _
 refine hN.out _ _ ?_
 have g0:=hx2.c0
 have g1:=hx2.c1
 go_wp2_with fail
 refine bodyPost_ret (v:=.agg #[.string X,.string Y]) (by simp [results,Tryz.results285,go_sem,g0,g1]) rfl ?_
 exact ⟨rfl,hbz⟩
theorem pOver_ok (a b c d:Nat) (w:World) (hG:Glo w) (ha:Fit (a:Int)) (hb:Fit (b:Int)) (hc:Fit (c:Int)) (hd:Fit (d:Int)) (h1:Fit ((a * d:Nat):Int)) (h2:Fit ((b * c:Nat):Int)) :
  Calls Tryz.prog 284 #[.agg #[.string (decS a),.string (decS b)],.agg #[.string (decS c),.string (decS d)]] w (RetB (.agg #[.string (decS (a * d)),.string (decS (b * c))]) w):=by
 have H1:=Lib.hid (fun W (hB:Below w.heap.size w W)=>mulN_ok a d W (hG.below hB) ha hd h1)
 have H2:=Lib.hid (fun W (hB:Below w.heap.size w W)=>mulN_ok b c W (hG.below hB) hb hc h2)
 generalize decS (a * d)=X at *
 generalize decS (b * c)=Y at *
 generalize decS a=sa at *
 generalize decS b=sb at *
 generalize decS c=sc at *
 generalize decS d=sd at *
 clear hG ha hb hc hd h1 h2
 go_enter Tryz.func284,Tryz.ntmps284
 go_wp2_with fail
 have hb0:Below w.heap.size w (((w.alloc (.cells #[.string sa,.string sb] 167)).alloc (.cells #[.string sc,.string sd] 167)).alloc (.cells #[.string ⟨#[]⟩,.string ⟨#[]⟩] 167)):=qbl
 have x0:BoxT2 167 (((w.alloc (.cells #[.string sa,.string sb] 167)).alloc (.cells #[.string sc,.string sd] 167)).alloc (.cells #[.string ⟨#[]⟩,.string ⟨#[]⟩] 167)) w.heap.size (.string sa) (.string sb):=((BoxT2.new rfl).below (bw4 (bw0 _ _) _)).below (bw4 (bw0 _ _) _)
 have x1:BoxT2 167 (((w.alloc (.cells #[.string sa,.string sb] 167)).alloc (.cells #[.string sc,.string sd] 167)).alloc (.cells #[.string ⟨#[]⟩,.string ⟨#[]⟩] 167)) (w.heap.size+1) (.string sc) (.string sd):=(BoxT2.new (by simp)).below (bw4 (bw0 _ _) _)
 have x2:BoxT2 167 (((w.alloc (.cells #[.string sa,.string sb] 167)).alloc (.cells #[.string sc,.string sd] 167)).alloc (.cells #[.string ⟨#[]⟩,.string ⟨#[]⟩] 167)) (w.heap.size+2) (.string ⟨#[]⟩) (.string ⟨#[]⟩):=BoxT2.new (by simp)
 generalize (((w.alloc (.cells #[.string sa,.string sb] 167)).alloc (.cells #[.string sc,.string sd] 167)).alloc (.cells #[.string ⟨#[]⟩,.string ⟨#[]⟩] 167))=W7 at *
 have hR:Below W7.heap.size W7 W7.drew:=(bw0 _ _).drew
 refine region_S (F:=[11]) (R:=(fun w'=>Below W7.heap.size W7 w')) 12 #[false,false,false,false,false,false,false,false,false,false,false,false] (by kernel_rfl) (by kernel_rfl) (by kernel_rfl) (fun _ _ _ _ _ h=>h) (fun Q' hQ' hN=>?_)
 generalize W7.drew=wd at *
 refine tkS 5 (i:=0) (v:=?_) (fw:=6) hQ' hR rfl ?_ ?_;rotate_left;(focus (intro wq hRq;have c0:=(x0.below hRq).c0;have c1:=(x0.below hRq).c1;have d0:=(x1.below hRq).c0;have d1:=(x1.below hRq).c1;go_simp;(try with_reducible rfl)));(try simp only [Act.put,bw7,bw8,bw9])
 refine tkS 6 (i:=1) (v:=?_) (fw:=6) hQ' hR rfl ?_ ?_;rotate_left;(focus (intro wq hRq;have c0:=(x0.below hRq).c0;have c1:=(x0.below hRq).c1;have d0:=(x1.below hRq).c0;have d1:=(x1.below hRq).c1;go_simp;(try with_reducible rfl)));(try simp only [Act.put,bw7,bw8,bw9])
 refine tkS 7 (i:=2) (v:=?_) (fw:=6) hQ' hR rfl ?_ ?_;rotate_left;(focus (intro wq hRq;have c0:=(x0.below hRq).c0;have c1:=(x0.below hRq).c1;have d0:=(x1.below hRq).c0;have d1:=(x1.below hRq).c1;go_simp;(try with_reducible rfl)));(try simp only [Act.put,bw7,bw8,bw9])
 refine tkS 8 (i:=3) (v:=?_) (fw:=6) hQ' hR rfl ?_ ?_;rotate_left;(focus (intro wq hRq;have c0:=(x0.below hRq).c0;have c1:=(x0.below hRq).c1;have d0:=(x1.below hRq).c0;have d1:=(x1.below hRq).c1;go_simp;(try with_reducible rfl)));(try simp only [Act.put,bw7,bw8,bw9])
 refine tkS 10 (i:=5) (v:=?_) (fw:=6) hQ' hR rfl ?_ ?_;rotate_left;(focus (intro wq hRq;have c0:=(x0.below hRq).c0;have c1:=(x0.below hRq).c1;have d0:=(x1.below hRq).c0;have d1:=(x1.below hRq).c1;go_simp;(try with_reducible rfl)));(try simp only [Act.put,bw7,bw8,bw9])
 refine tkS 11 (i:=6) (v:=?_) (fw:=6) hQ' hR rfl ?_ ?_;rotate_left;(focus (intro wq hRq;have c0:=(x0.below hRq).c0;have c1:=(x0.below hRq).c1;have d0:=(x1.below hRq).c0;have d1:=(x1.below hRq).c1;go_simp;(try with_reducible rfl)));(try simp only [Act.put,bw7,bw8,bw9])
 refine tkS 12 (i:=7) (v:=?_) (fw:=6) hQ' hR rfl ?_ ?_;rotate_left;(focus (intro wq hRq;have c0:=(x0.below hRq).c0;have c1:=(x0.below hRq).c1;have d0:=(x1.below hRq).c0;have d1:=(x1.below hRq).c1;go_simp;(try with_reducible rfl)));(try simp only [Act.put,bw7,bw8,bw9])
 refine tkS 13 (i:=8) (v:=?_) (fw:=6) hQ' hR rfl ?_ ?_;rotate_left;(focus (intro wq hRq;have c0:=(x0.below hRq).c0;have c1:=(x0.below hRq).c1;have d0:=(x1.below hRq).c0;have d1:=(x1.below hRq).c1;go_simp;(try with_reducible rfl)));(try simp only [Act.put,bw7,bw8,bw9])
 refine wpAnyS_ready (rs:=[4]) (by kernel_rfl) (by simp) ?_
 refine stepR (i:=4) rfl (by kernel_rfl) (fun K hK=>?_) (AllReadyS.nil)
 go_simp
 refine (H1.out _ (below_trans' hb0 hR)).mono ?_
 rintro e wn ⟨rfl,hB'⟩
 replace hR:=below_trans' hR hB'
 clear hB'
 refine hK.out _ _ hR ?_
 clear hK K
 (try simp only [Act.put,bw7,bw8,bw9])
 refine wpAnyS_ready (rs:=[9]) (by kernel_rfl) (by simp) ?_
 refine stepR (i:=9) rfl (by kernel_rfl) (fun K hK=>?_) (AllReadyS.nil)
 go_simp
 refine (H2.out _ (below_trans' hb0 hR)).mono ?_
 rintro e wn ⟨rfl,hB'⟩
 replace hR:=below_trans' hR hB'
 clear hB'
 refine hK.out _ _ hR ?_
 clear hK K
 (try simp only [Act.put,bw7,bw8,bw9])
 refine tkS 15 (i:=10) (v:=?_) (fw:=6) hQ' hR rfl ?_ ?_;rotate_left;(focus (intro wq hRq;have c0:=(x0.below hRq).c0;have c1:=(x0.below hRq).c1;have d0:=(x1.below hRq).c0;have d1:=(x1.below hRq).c1;go_simp;(try with_reducible rfl)));(try simp only [Act.put,bw7,bw8,bw9])
 refine wpAnyS_ready (rs:=[11]) (by kernel_rfl) (by simp) ?_
 refine stepF (i:=11) rfl (by kernel_rfl) (by kernel_rfl) (fun K hK=>?_) (AllReadyS.nil)
 refine wp_storeT2 _ _ _ rfl (x2.below hR) Tryz.infoPair rfl rfl rfl rfl (fun wx hS hx2=>?_)
 have hbz:Below w.heap.size w wx:=hS.below (below_trans' hb0 hR) (by omega)
 refine hK.out _ _ ?_
 clear hK K
 (try simp only [Act.put,bw7,bw8,bw9])
 refine wpAnyS_done (by kernel_rfl) ?_ _
 refine hN.out _ _ ?_
 have g0:=hx2.c0
 have g1:=hx2.c1
 go_wp2_with fail
 refine bodyPost_ret (v:=.agg #[.string X,.string Y]) (by simp [results,Tryz.results284,go_sem,g0,g1]) rfl ?_
 exact ⟨rfl,hbz⟩
theorem pFloor_ok (a b:Nat) (w:World) (hG:Glo w) (ha:Fit (a:Int)) (hb:Fit (b:Int)) (hb0:0 < b) :
  Calls Tryz.prog 286 #[.agg #[.string (decS a),.string (decS b)]] w (RetB (.string (decS (a / b))) w):=by
 have H1:=Lib.hid (fun W (hB:Below w.heap.size w W)=>quotN_ok a b W (hG.below hB) ha hb hb0)
 generalize decS (a / b)=X at *
 generalize decS (a % b)=Y at *
 generalize decS a=sa at *
 generalize decS b=sb at *
 clear hG ha hb
 go_enter Tryz.func286,Tryz.ntmps286
 go_wp2_with fail
 refine (H1.out _ qbl).mono ?_
 rintro e w1 ⟨rfl,hB1⟩
 have hb1:Below w.heap.size w w1:=qbl
 clear hB1
 go_wp2_with fail
 go_ret
 exact ⟨rfl,hb1⟩
end Go.Proofs.YtbbclfbpllbbbaaGreatDoor
namespace Go.Proofs.YtbbclfbpllbbbaaGreatDoor
open Go.RowKit
attribute [local go_sem] Oper.semAt_some
theorem after_allocD {K:Act→World→Prop} {a:Act} {X:World} {o:Obj} (h:∀ W,Below X.heap.size X W→W.heap[X.heap.size]?=some o→X.heap.size < W.heap.size→K a W):K a (X.alloc o) :=
 h _ (bw4 (bw0 _ _) _) Array.getElem?_push_size (by simp)
theorem isInts_box {W:World} {b:Nat} {t:TypeId} (h:W.heap[b]?=some (.cells #[.int .i64 1] t (0,0))):IsInts W (.slice (some ⟨b,0,none⟩) 1 1) [1] :=
 ⟨some ⟨b,0,none⟩,1,rfl,by decide,fun _=>⟨b,0,rfl,fun k hk=>by
  obtain rfl:k=0:=by simpa using hk
  simp only [World.cell?,h];rfl⟩⟩
theorem num_1:Num [1] 1:=num_one (by omega) (by omega)
theorem IDivideN_ok (x y:Int) (s t:ByteArray) (w:World) (hG:Glo w) (hs:s.data.toList=Lib.itoa x) (hx:Fit x) (ht:t.data.toList=Lib.itoa y) (hy:Fit y) (hy0:0 < y) (hb:¬ (s.size≤18∧t.size≤18)) (hc:x % y≠0) (hx0:x < 0) :
  Calls Tryz.prog 119 #[.string s,.string t] w (RetQR (x / y) (x % y) w):=by
 have hsz:=fit_size hs hx
 have htz:=fit_size ht hy
 have hne:(t.toList == [48])=false:=ne_of_list ht (itoa_ne0 (by omega))
 have hfq:Fit (x / y):=fit_le (by
  have h1:=Int.mul_ediv_add_emod x y
  have h2:=Int.emod_lt_of_pos x hy0
  have h3:=Int.emod_nonneg x (show y≠0 by omega)
  have h4:x≤x / y:=by
   have h5:y * (x / y)≤x:=by omega
   have h6:x / y < 0:=by
    refine Int.not_le.1 fun h=>?_
    have:=Int.mul_nonneg (show 0≤y by omega) h
    omega
   have h7:x / y * y≤x / y * 1:=Int.mul_le_mul_of_nonpos_left (by omega) (by omega)
   have h8:x < y * (x / y)+y:=by omega
   -- x/y >= x:(x/y+1) * y > x
   refine Int.not_lt.1 fun h=>?_
   have h9:x / y+1≤x:=by omega
   have h10:(x / y+1) * y≤x * y:=Int.mul_le_mul_of_nonneg_right h9 (by omega)
   have h11:x * y≤x * 1:=Int.mul_le_mul_of_nonpos_left (by omega) (by omega)
   rw [Int.add_mul,Int.mul_comm (x / y) y] at h10
   omega
  have h6:x / y < 0:=by
   refine Int.not_le.1 fun h=>?_
   have:=Int.mul_nonneg (show 0≤y by omega) h
   omega
  omega) hx
 have hfr:Fit (x % y):=fit_le (by
  have h1:=Int.emod_nonneg x (show y≠0 by omega)
  have h2:=Int.emod_lt_of_pos x hy0
  omega) hy
 have HS:=Lib.hid hs
 have HT:=Lib.hid ht
 have HX:=Lib.hid hx
 have HY:=Lib.hid hy
 have HG:=Lib.hid hG
 have HFQ:=Lib.hid hfq
 have HFR:=Lib.hid hfr
 clear hs ht hx hy hG hfq hfr
 go_enter Tryz.func119,Tryz.ntmps119
 go_wp2_with fail
 refine (Iboth_ok x y s t _ HS.out HX.out HT.out HY.out).mono ?_
 rintro e w1 ⟨rfl,hB1⟩
 go_wp2_with fail
 refine (small_long s t _ (by omega)).mono ?_
 rintro e w2 ⟨rfl,hB2⟩
 have hb2:Below w.heap.size w w2:=qbl
 clear hB1 hB2
 go_wp2_with fail
 refine (iread_ok x s _ HS.out (by omega)).mono ?_
 rintro e w3 ⟨v1,rfl,hv1,hB3⟩
 have hb3:Below w.heap.size w w3:=below_trans' hb2 hB3
 obtain ⟨m1,a1,l1,c1,n1,rfl,i1,d1,z1,q1⟩:=hv1.parts
 have HI1:=Lib.hid i1
 have Z1:=Lib.hid z1
 clear hv1 hB3 i1 z1
 go_wp2_with fail
 refine (iread_ok y t _ HT.out (by omega)).mono ?_
 rintro e w4 ⟨v2,rfl,hv2,hB4⟩
 have hb4:Below w.heap.size w w4:=below_trans' hb3 hB4
 obtain ⟨m2,a2,l2,c2,n2,rfl,i2,d2,z2,q2⟩:=hv2.parts
 have hn2:=d2.high.1
 obtain rfl:m2=false:=by
  cases m2
  ·rfl
  ·exfalso;simp [sgnV] at z2;omega
 obtain rfl:n2=y:=z2.symm
 have hn1:=d1.high.1
 obtain rfl:m1=true:=by
  cases m1
  ·exfalso;simp [sgnV] at Z1;have:=Z1.out;omega
  ·rfl
 have hxn:x=-n1:=Z1.out
 have hr0:n1 % n2≠0:=fun h=>hc (by rw [hxn];exact Int.emod_eq_zero_of_dvd (Int.dvd_neg.2 (Int.dvd_of_emod_eq_zero h)))
 obtain ⟨e1,e2⟩:x / n2=-(n1 / n2+1)∧x % n2=n2 - n1 % n2:=by
  rw [hxn]
  have h1:=Int.mul_ediv_add_emod n1 n2
  have h2:=Int.emod_lt_of_pos n1 hy0
  have h3:=Int.emod_nonneg n1 (show n2≠0 by omega)
  have h4 : -n1=(n2 - n1 % n2)+n2 * (-(n1 / n2+1)):=by
   have:n2 * (-(n1 / n2+1))=-(n2 * (n1 / n2)) - n2:=by rw [Int.mul_neg,Int.mul_add,Int.mul_one];omega
   omega
  rw [h4]
  have h5:0≤n2 - n1 % n2:=by omega
  have h6:n2 - n1 % n2 < n2:=by omega
  rw [Int.add_mul_ediv_left _ _ (by omega),Int.add_mul_emod_self_left,Int.ediv_eq_zero_of_lt h5 h6,Int.emod_eq_of_lt h5 h6]
  exact ⟨by omega,rfl⟩
 have HR0:=Lib.hid hr0
 have HRB:=Lib.hid (show n1 % n2≤n2 by have:=Int.emod_lt_of_pos n1 hy0;omega)
 have E1:=Lib.hid e1
 have E2:=Lib.hid e2
 have HB0:=Lib.hid (And.intro (HI1.out.below hB4) (And.intro i2 (And.intro d1 d2)))
 have hq1:l1.length≤40:=by omega
 have hq2:l2.length≤40:=by omega
 clear hv2 hB4 i2 d1 d2 z2 HI1 e1 e2 hc hr0 hxn hx0
 have HDV:=Lib.hid (fun (W:World) (hB:Below w4.heap.size w4 W)=>divideL_ok _ _ W (HB0.out.1.below hB) (HB0.out.2.1.below hB) HB0.out.2.2.1 HB0.out.2.2.2 (by omega) (by omega) hy0)
 have hBy:Below w4.heap.size w4 ((w4.alloc (.cells #[.bool true,.slice a1 l1.length c1] 231)).alloc (.cells #[.bool false,.slice a2 l2.length c2] 231)):=bw4 (bw4 (bw0 _ _) _) _
 go_wp2_with fail
 refine (HDV.out _ hBy).mono ?_
 rintro e w5 ⟨lq,vq,lr,vr,rfl,iq,ir,nq,nr,kq,kr,hB5⟩
 obtain ⟨qa,qc,rfl⟩:=iq.slice
 obtain ⟨ra,rc,rfl⟩:=ir.slice
 have hb5:Below w.heap.size w w5:=below_trans' (below_trans' hb4 hBy) hB5
 have x0:BoxN w5 w4.heap.size (.bool true) (.slice a1 l1.length c1):=((BoxN.new rfl).below (bw4 (bw0 _ _) _)).below hB5
 have x1:BoxN w5 (w4.heap.size+1) (.bool false) (.slice a2 l2.length c2):=(BoxN.new (by simp)).below hB5
 have p0:=x0.c0
 have p1:=x0.c1
 have p2:=x1.c0
 have p3:=x1.c1
 have hl1:(0:Int) < (lr.length:Int):=by
  have h:lr.length≠0:=fun h=>HR0.out (nr.zero.1 h)
  omega
 have HIQ:=Lib.hid iq
 have HIR:=Lib.hid ir
 have HNQ:=Lib.hid nq
 have HNR:=Lib.hid nr
 have hb45:Below w4.heap.size w4 w5:=below_trans' hBy hB5
 clear iq ir nq nr hB5 hBy HDV
 have hR:Below w5.heap.size w5 w5.drew:=(bw0 _ _).drew
 go_wp2_with fail
 refine region_S (F:=[]) (R:=(fun w'=>Below w5.heap.size w5 w')) 9 #[false,false,false,false,false,false,false,false,false] (by kernel_rfl) (by kernel_rfl) (by kernel_rfl) (fun _ _ _ _ _ h=>h) (fun Q' hQ' hN=>?_)
 generalize w5.drew=wd at *
 refine tkS 83 (i:=0) (v:=?_) (fw:=5) hQ' hR rfl ?_ ?_;rotate_left;(focus (intro wq hRq;have c1:=(x1.below hRq).c1;go_simp;(try with_reducible rfl)));(try simp only [Act.put,bw7,bw8,bw9])
 refine tkS 86 (i:=3) (v:=?_) (fw:=5) hQ' hR rfl ?_ ?_;rotate_left;(focus (intro wq hRq;have c1:=(x1.below hRq).c1;go_simp;(try with_reducible rfl)));(try simp only [Act.put,bw7,bw8,bw9])
 refine tkS 87 (i:=4) (v:=?_) (fw:=5) hQ' hR rfl ?_ ?_;rotate_left;(focus (intro wq hRq;have c1:=(x1.below hRq).c1;go_simp;(try with_reducible rfl)));(try simp only [Act.put,bw7,bw8,bw9])
 refine tkS 88 (i:=5) (v:=?_) (fw:=5) hQ' hR rfl ?_ ?_;rotate_left;(focus (intro wq hRq;have c1:=(x1.below hRq).c1;go_simp;(try with_reducible rfl)));(try simp only [Act.put,bw7,bw8,bw9])
 refine wpAnyS_ready (rs:=[1]) (by kernel_rfl) (by simp) ?_
 refine stepR (i:=1) rfl (by kernel_rfl) (fun K hK=>?_) (AllReadyS.nil)
 go_simp
 refine after_allocD (fun wb hB' hvb hzb=>?_)
 have HI1:=Lib.hid (isInts_box hvb)
 replace hR:=below_trans' hR hB'
 obtain ⟨vb,hvb'⟩:∃ vb,wd.heap.size=vb:=⟨_,rfl⟩
 rw [hvb'] at HI1 ⊢
 clear hB' hzb hvb hvb'
 refine hK.out _ _ hR ?_
 clear hK K
 (try simp only [Act.put,bw7,bw8,bw9])
 refine wpAnyS_ready (rs:=[2]) (by kernel_rfl) (by simp) ?_
 refine stepR (i:=2) rfl (by kernel_rfl) (fun K hK=>?_) (AllReadyS.nil)
 go_simp
 refine (plusL_ok _ _ _ (HIQ.out.below hR) HI1.out HNQ.out num_1 (by omega) (by decide)).mono ?_
 rintro e wc ⟨lp,vp,rfl,op,np,kp,hB'⟩
 obtain ⟨pa,pc,rfl⟩:=op.is.slice
 have HIP:=Lib.hid op.is
 have HNP:=Lib.hid np
 replace hR:=below_trans' hR hB'
 clear hB' op np HI1
 refine hK.out _ _ hR ?_
 clear hK K
 (try simp only [Act.put,bw7,bw8,bw9])
 refine wpAnyS_ready (rs:=[6]) (by kernel_rfl) (by simp) ?_
 refine stepR (i:=6) rfl (by kernel_rfl) (fun K hK=>?_) (AllReadyS.nil)
 go_simp
 refine (minusL_ok _ _ _ (HB0.out.2.1.below (below_trans' hb45 hR)) (HIR.out.below hR) HB0.out.2.2.2 HNR.out (by omega) (by omega) HRB.out).mono ?_
 rintro e we ⟨lm,vm,rfl,om,nm,km,hB'⟩
 obtain ⟨ma,mc,rfl⟩:=om.is.slice
 have HIM:=Lib.hid om.is
 have HNM:=Lib.hid nm
 replace HIP:=Lib.hid (HIP.out.below hB')
 replace hR:=below_trans' hR hB'
 clear hB' om nm
 refine hK.out _ _ hR ?_
 clear hK K
 (try simp only [Act.put,bw7,bw8,bw9])
 refine tkS 15 (i:=7) (v:=?_) (fw:=5) hQ' hR rfl ?_ ?_;rotate_left;(focus (intro wq hRq;have c1:=(x1.below hRq).c1;go_simp;(try with_reducible rfl)));(try simp only [Act.put,bw7,bw8,bw9])
 refine tkS 16 (i:=8) (v:=?_) (fw:=5) hQ' hR rfl ?_ ?_;rotate_left;(focus (intro wq hRq;have c1:=(x1.below hRq).c1;go_simp;(try with_reducible rfl)));(try simp only [Act.put,bw7,bw8,bw9])
 refine wpAnyS_done (by kernel_rfl) ?_ _
 refine hN.out _ _ ?_
 have hb6:=below_trans' hb5 hR
 have p0:=(x0.below hR).c0
 have p2:=(x1.below hR).c0
 have HQ:Hid (IsBig we (.agg #[.bool true,.slice pa lp.length pc]) (x / n2) 42):=Lib.hid ⟨true,_,lp,_,rfl,HIP.out,HNP.out,by rw [E1.out];rfl,by simp only [List.length_cons,List.length_nil] at kp;omega⟩
 have HR:Hid (IsBig we (.agg #[.bool false,.slice ma lm.length mc]) (x % n2) 42):=Lib.hid ⟨false,_,lm,_,rfl,HIM.out,HNM.out,by rw [E2.out];rfl,by omega⟩
 clear hR HIP HNP HIM HNM kp km
 go_wp2_with fail
 refine (result_ok _ _ (HG.out.below hb6) HQ.out (by omega)).mono ?_
 intro e w6 hr
 obtain ⟨rq,hrq,rfl,hB6⟩:=hr.1 HFQ.out
 have HRQ:=Lib.hid hrq
 have p4:=keep hB6 p2
 have hb7:=below_trans' hb6 hB6
 have HR':=Lib.hid (HR.out.below hB6)
 clear hr hrq hB6
 go_wp2_with fail
 refine (result_ok _ _ (HG.out.below hb7) HR'.out (by omega)).mono ?_
 intro e w7 hr
 obtain ⟨rr,hrr,rfl,hB7⟩:=hr.1 HFR.out
 have HRR:=Lib.hid hrr
 have hb8:=below_trans' hb7 hB7
 clear hr hrr
 go_wp2_with fail
 go_ret3
 exact ⟨rq,rr,HRQ.out,HRR.out,rfl,hb8⟩
end Go.Proofs.YtbbclfbpllbbbaaGreatDoor
namespace Go.Proofs.YtbbclfbpllbbbaaGreatDoor
open Go.RowKit Go.Shelf
attribute [local go_sem] Oper.semAt_some
def thou:ByteArray:=⟨#[49,47,49,48,48,48]⟩
theorem thou_text:thou.data.toList=ratText (1 / 1000):=by decide +kernel
theorem thou_num:thou=numS (1 / 1000):=numS_of thou_text
theorem thou_sz:Sz 4 (1 / 1000):=by unfold Sz;decide +kernel
theorem thou_parts:((1 / 1000:Rat)).num=1∧((1 / 1000:Rat)).den=1000:=by decide +kernel
theorem rSignT_ok (w:World):Calls Tryz.prog 283 #[.string thou] w (RetB (.int .i64 1) w):=by
 have H:=Lib.hid (fun W=>rootNeg_ok (q:=1 / 1000) thou W thou_text)
 rw [show decide (((1 / 1000:Rat)).num < 0)=false by decide +kernel] at H
 have h48:(thou.toList == [48])=false:=by rw [Lib.toList_data];decide +kernel
 generalize thou=t at *
 go_enter Tryz.func283,Tryz.ntmps283
 go_wp2_with fail
 refine (H.out _).mono ?_
 rintro e w1 ⟨rfl,rfl⟩
 go_wp2_with fail
 go_ret
 exact ⟨rfl,qbl⟩
theorem unitErrT_ok (q:Rat) (w:World) (hG:Glo w) (hq:Sz 90 q) (h0:0≤q.num) :
  Calls Tryz.prog 275 #[.string (numS q),.string thou] w (RetB (.int .i64 0) w):=by
 have HCK:=Lib.hid (fun (W:World) (u v:Value) (hG:Glo W) hu hv=>rootCheck_ok [q,1 / 1000] [q] u v W hG hu hv (fun j h=>by
   have:j=0∨j=1:=by simp at h;omega
   rcases this with rfl|rfl
   ·exact hq
   ·exact thou_sz.mono (by decide)) (fun j h=>by
   obtain rfl:j=0:=by simpa using h
   exact h0) (by simp) (by simp))
 have HS:=Lib.hid rSignT_ok
 have HG:=Lib.hid hG
 have I2:=Lib.hid (fun (W:World) (ty:TypeId)=>isStrs_lit2 W q (1 / 1000) ty)
 have I1:=Lib.hid (fun (W:World) (ty:TypeId)=>isStrs_lit1 W q ty)
 rw [← thou_num] at I2
 generalize thou=t at *
 generalize hsq:numS q=s at *
 have HSQ:=Lib.hid hsq
 clear hG hq h0 hsq
 go_enter Tryz.func275,Tryz.ntmps275
 go_wp2_with fail
 have J1:IsStrs ((w.alloc (.cells #[.string s,.string t] 34)).alloc (.cells #[.string s] 34)) (.slice (some ⟨w.heap.size,0,none⟩) 2 2) ([q,1 / 1000].map numS):=(I2.out w _).below (bw4 (bw0 _ _) _)
 have J2:IsStrs ((w.alloc (.cells #[.string s,.string t] 34)).alloc (.cells #[.string s] 34)) (.slice (some ⟨w.heap.size+1,0,none⟩) 1 1) ([q].map numS):=by
  have h:=I1.out (w.alloc (.cells #[.string s,.string t] 34)) 34
  rw [World.size_alloc] at h;exact h
 refine (HCK.out _ _ _ (HG.out.below qbl) J1 J2).mono ?_
 rintro e w1 ⟨rfl,hB1⟩
 have hb1:Below w.heap.size w w1:=qbl
 clear hB1 HCK I2 I1 J1 J2
 go_wp2_with fail
 refine (HS.out _).mono ?_
 rintro e w2 ⟨rfl,hB2⟩
 have hb2:=below_trans' hb1 hB2
 clear hB2 hb1
 go_wp2_with fail
 go_ret
 exact ⟨rfl,hb2⟩
theorem unitsT_ok (q:Rat) (w:World) (hG:Glo w) (hq:Sz 90 q) (h0:0≤q.num) :
  Calls Tryz.prog 277 #[.string (numS q),.string thou,.string ⟨#[49]⟩] w (RetB (.string (decS (thQ q))) w):=by
 obtain ⟨N,hN⟩:∃ N,q.num.toNat=N:=⟨_,rfl⟩
 obtain ⟨D,hD⟩:∃ D,q.den=D:=⟨_,rfl⟩
 have hN1:N < 10 ^ 90:=by have:=hq.1;omega
 have hD1:D < 10 ^ 90:=by rw [← hD];exact hq.2
 have hD0:0 < D:=by rw [← hD];exact q.den_pos
 have F:∀ {x:Nat},x < 10 ^ 97→Fit (x:Int):=fun h=>fit_nat (Nat.lt_of_lt_of_le h (pow10_le (a:=97) (b:=300) (by decide)))
 have b1:N * 1000000 < 10 ^ 97:=by omega
 have e97:(10:Nat) ^ 90 < 10 ^ 97:=by decide
 have H1:=Lib.hid (fun W hG=>rootOfN_ok (k:=4) (q:=1 / 1000) W hG thou_sz (by decide) (by decide +kernel))
 rw [← thou_num,thou_parts.2,show ((1 / 1000:Rat)).num.toNat=1 by decide +kernel] at H1
 have H2:=Lib.hid (fun W hG=>rootOfN_ok (k:=90) (q:=q) W hG hq (by decide) h0)
 rw [hN,hD] at H2
 have H3:=Lib.hid (fun W hG=>pTimes_ok 1 1000 1 1000 W hG (F (by decide)) (F (by decide)) (F (by decide)) (F (by decide)) (F (by decide)) (F (by decide)))
 have H4:=Lib.hid (fun W hG=>pOver_ok N D (1 * 1) (1000 * 1000) W hG (F (by omega)) (F (by omega)) (F (by decide)) (F (by decide)) (F (by omega)) (F (by omega)))
 have H5:=Lib.hid (fun W hG=>mulN_ok (N * (1000 * 1000)) 1 W hG (F (by omega)) (F (by decide)) (F (by omega)))
 rw [show decS 1=⟨#[49]⟩ by decide +kernel] at H5
 have H6:=Lib.hid (fun W hG=>pFloor_ok (N * (1000 * 1000) * 1) (D * (1 * 1)) W hG (F (by omega)) (F (by omega)) (by omega))
 have hQ:N * (1000 * 1000) * 1 / (D * (1 * 1)) < 10 ^ 97:=Nat.lt_of_le_of_lt (Nat.div_le_self _ _) (by omega)
 have H7:=Lib.hid (fun W hG=>Root_ok (N * (1000 * 1000) * 1 / (D * (1 * 1))) _ W hG (decS_list _) (by
  have h1:(decS (N * (1000 * 1000) * 1 / (D * (1 * 1)))).size=(decS (N * (1000 * 1000) * 1 / (D * (1 * 1)))).data.toList.length:=rfl
  rw [h1,decS_list]
  exact len_of_lt (Nat.lt_of_lt_of_le hQ (pow10_le (a:=97) (b:=300) (by decide))) (by decide)))
 have HT:Hid (∀ r:ByteArray,r.data.toList=Lib.itoa ((rootN (N * (1000 * 1000) * 1 / (D * (1 * 1))):Nat):Int)→r=decS (thQ q)):=Lib.hid (fun r hr=>by
  rw [itoa_natCast] at hr
  unfold thQ
  rw [hN,hD]
  have e:N * (1000 * 1000) * 1 / (D * (1 * 1))=N * 1000000 / D:=by show N * 1000000 * 1 / (D * 1)=_;rw [Nat.mul_one,Nat.mul_one]
  rw [e] at hr
  exact decS_of hr)
 generalize rootN (N * (1000 * 1000) * 1 / (D * (1 * 1)))=rtN at *
 generalize decS (thQ q)=res at *
 generalize decS (N * (1000 * 1000) * 1 / (D * (1 * 1)))=sQ at *
 generalize decS (N * (1000 * 1000) * 1)=sA at *
 generalize decS (D * (1 * 1))=sB at *
 generalize decS (N * (1000 * 1000))=sC at *
 generalize decS (1 * 1)=sD at *
 generalize decS (1000 * 1000)=sE at *
 generalize decS 1000=sF at *
 generalize decS N=sN at *
 generalize decS D=sDD at *
 generalize thou=t at *
 generalize numS q=sq at *
 have HG:=Lib.hid hG
 clear hG hq h0 hN hD hN1 hD1 hD0 F b1 e97 hQ
 go_enter Tryz.func277,Tryz.ntmps277
 go_wp2_with fail
 refine (H1.out _ (HG.out.below qbl)).mono ?_
 rintro e w1 ⟨rfl,hB1⟩
 have hb1:Below w.heap.size w w1:=qbl
 clear hB1 H1
 go_wp2_with fail
 have hb2:Below w.heap.size w (w1.alloc (.cells #[.string sD,.string sF] 167)):=bw4 hb1 _
 have hz2:=hb2.size
 have x0:BoxT2 167 (w1.alloc (.cells #[.string sD,.string sF] 167)) w1.heap.size (.string sD) (.string sF):=BoxT2.new rfl
 generalize (w1.alloc (.cells #[.string sD,.string sF] 167))=W7 at *
 generalize w1.heap.size=bN at *
 have hR:Below W7.heap.size W7 W7.drew:=(bw0 _ _).drew
 refine region_S (F:=[7]) (R:=(fun w'=>Below W7.heap.size W7 w')) 8 #[false,false,false,false,false,false,false,false] (by kernel_rfl) (by kernel_rfl) (by kernel_rfl) (fun _ _ _ _ _ h=>h) (fun Q' hQ' hN=>?_)
 generalize W7.drew=wd at *
 refine tkS 13 (i:=0) (v:=?_) (fw:=5) hQ' hR rfl ?_ ?_;rotate_left;(focus (intro wq hRq;have c0:=(x0.below hRq).c0;have c1:=(x0.below hRq).c1;go_simp;(try with_reducible rfl)));(try simp only [Act.put,bw7,bw8,bw9])
 refine tkS 15 (i:=2) (v:=?_) (fw:=5) hQ' hR rfl ?_ ?_;rotate_left;(focus (intro wq hRq;have c0:=(x0.below hRq).c0;have c1:=(x0.below hRq).c1;go_simp;(try with_reducible rfl)));(try simp only [Act.put,bw7,bw8,bw9])
 refine tkS 16 (i:=3) (v:=?_) (fw:=5) hQ' hR rfl ?_ ?_;rotate_left;(focus (intro wq hRq;have c0:=(x0.below hRq).c0;have c1:=(x0.below hRq).c1;go_simp;(try with_reducible rfl)));(try simp only [Act.put,bw7,bw8,bw9])
 refine wpAnyS_ready (rs:=[1,6]) (by kernel_rfl) (by simp) ?_
 refine stepR (i:=1) rfl (by kernel_rfl) (fun K hK=>?_) (stepR (i:=6) rfl (by kernel_rfl) (fun K hK=>?_) (AllReadyS.nil))
 ·go_simp
  refine (H2.out _ (HG.out.below (below_trans' hb2 hR))).mono ?_
  rintro e wk1 ⟨rfl,hB'⟩
  replace hR:=below_trans' hR hB'
  clear hB'
  refine hK.out _ _ hR ?_
  clear hK K
  (try simp only [Act.put,bw7,bw8,bw9])
  refine wpAnyS_ready (rs:=[4,6]) (by kernel_rfl) (by simp) ?_
  refine stepR (i:=4) rfl (by kernel_rfl) (fun K hK=>?_) (stepR (i:=6) rfl (by kernel_rfl) (fun K hK=>?_) (AllReadyS.nil))
  ·go_simp
   refine (H3.out _ (HG.out.below (below_trans' hb2 hR))).mono ?_
   rintro e wk2 ⟨rfl,hB'⟩
   replace hR:=below_trans' hR hB'
   clear hB'
   refine hK.out _ _ hR ?_
   clear hK K
   (try simp only [Act.put,bw7,bw8,bw9])
   refine wpAnyS_ready (rs:=[5,6]) (by kernel_rfl) (by simp) ?_
   refine stepR (i:=5) rfl (by kernel_rfl) (fun K hK=>?_) (stepR (i:=6) rfl (by kernel_rfl) (fun K hK=>?_) (AllReadyS.nil))
   ·go_simp
    refine (H4.out _ (HG.out.below (below_trans' hb2 hR))).mono ?_
    rintro e wk3 ⟨rfl,hB'⟩
    replace hR:=below_trans' hR hB'
    clear hB'
    refine hK.out _ _ hR ?_
    clear hK K
    (try simp only [Act.put,bw7,bw8,bw9])
    refine wpAnyS_ready (rs:=[6]) (by kernel_rfl) (by simp) ?_
    refine stepR (i:=6) rfl (by kernel_rfl) (fun K hK=>?_) (AllReadyS.nil)
    go_simp
    refine after_allocD (fun wk4 hB' hvb hzb=>?_)
    have y0:BoxT2 167 wk4 wk3.heap.size (.string ⟨#[]⟩) (.string ⟨#[]⟩):=hvb
    have hvl:W7.heap.size≤wk3.heap.size:=hR.size
    generalize wk3.heap.size=vb at *
    replace hR:=hR.trans (hB'.mono hvl)
    clear hB' hvb hzb
    refine hK.out _ _ hR ?_
    clear hK K
    (try simp only [Act.put,bw7,bw8,bw9])
    refine wpAnyS_ready (rs:=[7]) (by kernel_rfl) (by simp) ?_
    refine stepF (i:=7) rfl (by kernel_rfl) (by kernel_rfl) (fun K hK=>?_) (AllReadyS.nil)
    refine wp_storeT2 _ _ _ rfl y0 Tryz.infoPair rfl rfl rfl rfl (fun wx hS hx2=>?_)
    have hbz:Below w.heap.size w wx:=hS.below (below_trans' hb2 hR) (by omega)
    clear hS y0
    refine hK.out _ _ ?_
    clear hK K
    (try simp only [Act.put,bw7,bw8,bw9])
    refine wpAnyS_done (by kernel_rfl) ?_ _
    refine hN.out _ _ ?_
    clear hR x0 H2 H3 H4
    have g0:=hx2.c0
    go_wp2_with fail
    refine (H5.out _ (HG.out.below hbz)).mono ?_
    rintro e wy ⟨rfl,hBk⟩
    have hbk:=below_trans' hbz hBk
    have y1:=hx2.below hBk
    have g0:=y1.c0
    have g1:=y1.c1
    have f0:=y1.frz 0
    clear hBk hbz hx2
    go_wp2_with fail
    have y2:=y1.set0 (.string sA)
    have hbm:Below w.heap.size w (wy.setCell ⟨vb,0,none⟩ (.string sA)):=hbk.setCell (by show w.heap.size≤vb;omega) _
    generalize wy.setCell ⟨vb,0,none⟩ (.string sA)=wz at *
    clear y1 g0 g1 f0 hbk
    refine (H6.out _ (HG.out.below hbm)).mono ?_
    rintro e wu ⟨rfl,hB8⟩
    have hb8:=below_trans' hbm hB8
    clear hB8 hbm y2
    go_wp2_with fail
    refine (H7.out _ (HG.out.below hb8)).mono ?_
    rintro e wv ⟨r,hr,rfl,hB9⟩
    obtain rfl:=HT.out r hr
    have hb9:=below_trans' hb8 hB9
    clear hB9 hb8 hr
    go_wp2_with fail
    go_ret
    exact ⟨rfl,hb9⟩
   ·go_simp
    refine after_allocD (fun wk3 hB' hvb hzb=>?_)
    have y0:BoxT2 167 wk3 wk2.heap.size (.string ⟨#[]⟩) (.string ⟨#[]⟩):=hvb
    have hvl:W7.heap.size≤wk2.heap.size:=hR.size
    generalize wk2.heap.size=vb at *
    replace hR:=hR.trans (hB'.mono hvl)
    clear hB' hvb hzb
    refine hK.out _ _ hR ?_
    clear hK K
    (try simp only [Act.put,bw7,bw8,bw9])
    refine wpAnyS_ready (rs:=[5]) (by kernel_rfl) (by simp) ?_
    refine stepR (i:=5) rfl (by kernel_rfl) (fun K hK=>?_) (AllReadyS.nil)
    go_simp
    refine (H4.out _ (HG.out.below (below_trans' hb2 hR))).mono ?_
    rintro e wk4 ⟨rfl,hB'⟩
    replace hR:=below_trans' hR hB'
    replace y0:=y0.below hB'
    clear hB'
    refine hK.out _ _ hR ?_
    clear hK K
    (try simp only [Act.put,bw7,bw8,bw9])
    refine wpAnyS_ready (rs:=[7]) (by kernel_rfl) (by simp) ?_
    refine stepF (i:=7) rfl (by kernel_rfl) (by kernel_rfl) (fun K hK=>?_) (AllReadyS.nil)
    refine wp_storeT2 _ _ _ rfl y0 Tryz.infoPair rfl rfl rfl rfl (fun wx hS hx2=>?_)
    have hbz:Below w.heap.size w wx:=hS.below (below_trans' hb2 hR) (by omega)
    clear hS y0
    refine hK.out _ _ ?_
    clear hK K
    (try simp only [Act.put,bw7,bw8,bw9])
    refine wpAnyS_done (by kernel_rfl) ?_ _
    refine hN.out _ _ ?_
    clear hR x0 H2 H3 H4
    have g0:=hx2.c0
    go_wp2_with fail
    refine (H5.out _ (HG.out.below hbz)).mono ?_
    rintro e wy ⟨rfl,hBk⟩
    have hbk:=below_trans' hbz hBk
    have y1:=hx2.below hBk
    have g0:=y1.c0
    have g1:=y1.c1
    have f0:=y1.frz 0
    clear hBk hbz hx2
    go_wp2_with fail
    have y2:=y1.set0 (.string sA)
    have hbm:Below w.heap.size w (wy.setCell ⟨vb,0,none⟩ (.string sA)):=hbk.setCell (by show w.heap.size≤vb;omega) _
    generalize wy.setCell ⟨vb,0,none⟩ (.string sA)=wz at *
    clear y1 g0 g1 f0 hbk
    refine (H6.out _ (HG.out.below hbm)).mono ?_
    rintro e wu ⟨rfl,hB8⟩
    have hb8:=below_trans' hbm hB8
    clear hB8 hbm y2
    go_wp2_with fail
    refine (H7.out _ (HG.out.below hb8)).mono ?_
    rintro e wv ⟨r,hr,rfl,hB9⟩
    obtain rfl:=HT.out r hr
    have hb9:=below_trans' hb8 hB9
    clear hB9 hb8 hr
    go_wp2_with fail
    go_ret
    exact ⟨rfl,hb9⟩
  ·go_simp
   refine after_allocD (fun wk2 hB' hvb hzb=>?_)
   have y0:BoxT2 167 wk2 wk1.heap.size (.string ⟨#[]⟩) (.string ⟨#[]⟩):=hvb
   have hvl:W7.heap.size≤wk1.heap.size:=hR.size
   generalize wk1.heap.size=vb at *
   replace hR:=hR.trans (hB'.mono hvl)
   clear hB' hvb hzb
   refine hK.out _ _ hR ?_
   clear hK K
   (try simp only [Act.put,bw7,bw8,bw9])
   refine wpAnyS_ready (rs:=[4]) (by kernel_rfl) (by simp) ?_
   refine stepR (i:=4) rfl (by kernel_rfl) (fun K hK=>?_) (AllReadyS.nil)
   go_simp
   refine (H3.out _ (HG.out.below (below_trans' hb2 hR))).mono ?_
   rintro e wk3 ⟨rfl,hB'⟩
   replace hR:=below_trans' hR hB'
   replace y0:=y0.below hB'
   clear hB'
   refine hK.out _ _ hR ?_
   clear hK K
   (try simp only [Act.put,bw7,bw8,bw9])
   refine wpAnyS_ready (rs:=[5]) (by kernel_rfl) (by simp) ?_
   refine stepR (i:=5) rfl (by kernel_rfl) (fun K hK=>?_) (AllReadyS.nil)
   go_simp
   refine (H4.out _ (HG.out.below (below_trans' hb2 hR))).mono ?_
   rintro e wk4 ⟨rfl,hB'⟩
   replace hR:=below_trans' hR hB'
   replace y0:=y0.below hB'
   clear hB'
   refine hK.out _ _ hR ?_
   clear hK K
   (try simp only [Act.put,bw7,bw8,bw9])
   refine wpAnyS_ready (rs:=[7]) (by kernel_rfl) (by simp) ?_
   refine stepF (i:=7) rfl (by kernel_rfl) (by kernel_rfl) (fun K hK=>?_) (AllReadyS.nil)
   refine wp_storeT2 _ _ _ rfl y0 Tryz.infoPair rfl rfl rfl rfl (fun wx hS hx2=>?_)
   have hbz:Below w.heap.size w wx:=hS.below (below_trans' hb2 hR) (by omega)
   clear hS y0
   refine hK.out _ _ ?_
   clear hK K
   (try simp only [Act.put,bw7,bw8,bw9])
   refine wpAnyS_done (by kernel_rfl) ?_ _
   refine hN.out _ _ ?_
   clear hR x0 H2 H3 H4
   have g0:=hx2.c0
   go_wp2_with fail
   refine (H5.out _ (HG.out.below hbz)).mono ?_
   rintro e wy ⟨rfl,hBk⟩
   have hbk:=below_trans' hbz hBk
   have y1:=hx2.below hBk
   have g0:=y1.c0
   have g1:=y1.c1
   have f0:=y1.frz 0
   clear hBk hbz hx2
   go_wp2_with fail
   have y2:=y1.set0 (.string sA)
   have hbm:Below w.heap.size w (wy.setCell ⟨vb,0,none⟩ (.string sA)):=hbk.setCell (by show w.heap.size≤vb;omega) _
   generalize wy.setCell ⟨vb,0,none⟩ (.string sA)=wz at *
   clear y1 g0 g1 f0 hbk
   refine (H6.out _ (HG.out.below hbm)).mono ?_
   rintro e wu ⟨rfl,hB8⟩
   have hb8:=below_trans' hbm hB8
   clear hB8 hbm y2
   go_wp2_with fail
   refine (H7.out _ (HG.out.below hb8)).mono ?_
   rintro e wv ⟨r,hr,rfl,hB9⟩
   obtain rfl:=HT.out r hr
   have hb9:=below_trans' hb8 hB9
   clear hB9 hb8 hr
   go_wp2_with fail
   go_ret
   exact ⟨rfl,hb9⟩
 ·go_simp
  refine after_allocD (fun wk1 hB' hvb hzb=>?_)
  have y0:BoxT2 167 wk1 wd.heap.size (.string ⟨#[]⟩) (.string ⟨#[]⟩):=hvb
  have hvl:W7.heap.size≤wd.heap.size:=hR.size
  generalize wd.heap.size=vb at *
  replace hR:=hR.trans (hB'.mono hvl)
  clear hB' hvb hzb
  refine hK.out _ _ hR ?_
  clear hK K
  (try simp only [Act.put,bw7,bw8,bw9])
  refine wpAnyS_ready (rs:=[1]) (by kernel_rfl) (by simp) ?_
  refine stepR (i:=1) rfl (by kernel_rfl) (fun K hK=>?_) (AllReadyS.nil)
  go_simp
  refine (H2.out _ (HG.out.below (below_trans' hb2 hR))).mono ?_
  rintro e wk2 ⟨rfl,hB'⟩
  replace hR:=below_trans' hR hB'
  replace y0:=y0.below hB'
  clear hB'
  refine hK.out _ _ hR ?_
  clear hK K
  (try simp only [Act.put,bw7,bw8,bw9])
  refine wpAnyS_ready (rs:=[4]) (by kernel_rfl) (by simp) ?_
  refine stepR (i:=4) rfl (by kernel_rfl) (fun K hK=>?_) (AllReadyS.nil)
  go_simp
  refine (H3.out _ (HG.out.below (below_trans' hb2 hR))).mono ?_
  rintro e wk3 ⟨rfl,hB'⟩
  replace hR:=below_trans' hR hB'
  replace y0:=y0.below hB'
  clear hB'
  refine hK.out _ _ hR ?_
  clear hK K
  (try simp only [Act.put,bw7,bw8,bw9])
  refine wpAnyS_ready (rs:=[5]) (by kernel_rfl) (by simp) ?_
  refine stepR (i:=5) rfl (by kernel_rfl) (fun K hK=>?_) (AllReadyS.nil)
  go_simp
  refine (H4.out _ (HG.out.below (below_trans' hb2 hR))).mono ?_
  rintro e wk4 ⟨rfl,hB'⟩
  replace hR:=below_trans' hR hB'
  replace y0:=y0.below hB'
  clear hB'
  refine hK.out _ _ hR ?_
  clear hK K
  (try simp only [Act.put,bw7,bw8,bw9])
  refine wpAnyS_ready (rs:=[7]) (by kernel_rfl) (by simp) ?_
  refine stepF (i:=7) rfl (by kernel_rfl) (by kernel_rfl) (fun K hK=>?_) (AllReadyS.nil)
  refine wp_storeT2 _ _ _ rfl y0 Tryz.infoPair rfl rfl rfl rfl (fun wx hS hx2=>?_)
  have hbz:Below w.heap.size w wx:=hS.below (below_trans' hb2 hR) (by omega)
  clear hS y0
  refine hK.out _ _ ?_
  clear hK K
  (try simp only [Act.put,bw7,bw8,bw9])
  refine wpAnyS_done (by kernel_rfl) ?_ _
  refine hN.out _ _ ?_
  clear hR x0 H2 H3 H4
  have g0:=hx2.c0
  go_wp2_with fail
  refine (H5.out _ (HG.out.below hbz)).mono ?_
  rintro e wy ⟨rfl,hBk⟩
  have hbk:=below_trans' hbz hBk
  have y1:=hx2.below hBk
  have g0:=y1.c0
  have g1:=y1.c1
  have f0:=y1.frz 0
  clear hBk hbz hx2
  go_wp2_with fail
  have y2:=y1.set0 (.string sA)
  have hbm:Below w.heap.size w (wy.setCell ⟨vb,0,none⟩ (.string sA)):=hbk.setCell (by show w.heap.size≤vb;omega) _
  generalize wy.setCell ⟨vb,0,none⟩ (.string sA)=wz at *
  clear y1 g0 g1 f0 hbk
  refine (H6.out _ (HG.out.below hbm)).mono ?_
  rintro e wu ⟨rfl,hB8⟩
  have hb8:=below_trans' hbm hB8
  clear hB8 hbm y2
  go_wp2_with fail
  refine (H7.out _ (HG.out.below hb8)).mono ?_
  rintro e wv ⟨r,hr,rfl,hB9⟩
  obtain rfl:=HT.out r hr
  have hb9:=below_trans' hb8 hB9
  clear hB9 hb8 hr
  go_wp2_with fail
  go_ret
  exact ⟨rfl,hb9⟩
theorem rootFloorT_ok (q:Rat) (w:World) (hG:Glo w) (hq:Sz 90 q) (h0:0≤q.num) :
  Calls Tryz.prog 264 #[.string (numS q),.string thou] w (RetB (.tuple #[.string (numS (((thQ q:Nat):Rat) / 1000)),.int .i64 0]) w):=by
 have hl:thQ q < 10 ^ 50:=by
  unfold thQ
  refine rootN_lt' (k:=50) ?_
  refine Nat.lt_of_le_of_lt (Nat.div_le_self _ _) ?_
  have h1:q.num.toNat≤q.num.natAbs:=by omega
  have h2:q.num.toNat < 10 ^ 90:=Nat.lt_of_le_of_lt h1 hq.1
  have h3:q.num.toNat * 1000000 < 10 ^ 90 * 1000000:=Nat.mul_lt_mul_of_pos_right h2 (by decide)
  exact Nat.lt_of_lt_of_le h3 (by decide)
 have e:((thQ q:Nat):Rat) * (1 / 1000)=((thQ q:Nat):Rat) / 1000:=by grind
 have H1:=Lib.hid (fun W hG=>unitErrT_ok q W hG hq h0)
 have H2:=Lib.hid (fun W hG=>unitsT_ok q W hG hq h0)
 have H3:=Lib.hid (fun W hG=>RMul_ok (decS (thQ q)) thou W hG (by rw [decS_list,← text_natR]) (sz_natR hl (by decide)) thou_text thou_sz (by decide))
 have HE:Hid (∀ r:ByteArray,r.data.toList=ratText (((thQ q:Nat):Int) * (1 / 1000))→r=numS (((thQ q:Nat):Rat) / 1000)):=Lib.hid (fun r hr=>numS_of (by rw [← e];exact hr))
 have HG:=Lib.hid hG
 generalize numS (((thQ q:Nat):Rat) / 1000)=res at *
 generalize decS (thQ q)=sd at *
 generalize numS q=sq at *
 generalize thou=t at *
 have HMU:∀ W,Glo W→Calls Tryz.prog 276 #[.string sd,.string t] W (RetB (.string res) W):=by
  intro W hG
  have H:=Lib.hid (H3.out W hG)
  clear H1 H2 H3 HG
  go_enter Tryz.func276,Tryz.ntmps276
  go_wp2_with fail
  refine H.out.mono ?_
  rintro e w1 ⟨r,hr,rfl,hB1⟩
  obtain rfl:=HE.out r hr
  clear hr
  go_wp2_with fail
  go_ret
  exact ⟨rfl,hB1⟩
 have HM:=Lib.hid HMU
 clear hG hq h0 hl e H3 HE HMU
 go_enter Tryz.func264,Tryz.ntmps264
 go_wp2_with fail
 refine (H1.out _ HG.out).mono ?_
 rintro e w1 ⟨rfl,hB1⟩
 go_wp2_with fail
 refine (H2.out _ (HG.out.below hB1)).mono ?_
 rintro e w2 ⟨rfl,hB2⟩
 have hb2:=below_trans' hB1 hB2
 clear hB1 hB2
 go_wp2_with fail
 refine (HM.out _ (HG.out.below hb2)).mono ?_
 rintro e w3 ⟨rfl,hB3⟩
 have hb3:=below_trans' hb2 hB3
 clear hB3 hb2
 go_wp2_with fail
 go_ret2
 exact ⟨rfl,hb3⟩
end Go.Proofs.YtbbclfbpllbbbaaGreatDoor
namespace Go.Proofs.YtbbclfbpllbbbaaGreatDoor
open Go.RowKit
theorem Int_q (n:Int) (s:ByteArray) (w:World) (hG:Glo w) (hs:s.data.toList=ratText n) (hn:n.natAbs≤1152921504606846976) :
  Calls Tryz.prog 114 #[.string s] w (RetB (.tuple #[.int .i64 n,.int .i64 0]) w):=by
 have hsz:Sz 20 ((n:Int):Rat):=⟨by show n.natAbs < _;omega,by show 1 < _;omega⟩
 have RS:=Lib.hid (fun W hG=>read_any s W hG hs hsz (by omega))
 have HG:=Lib.hid hG
 clear hs hG hsz
 go_enter Tryz.func114,Tryz.ntmps114
 go_wp2_with fail
 refine (RS.out _ HG.out).mono ?_
 rintro e w1 ⟨a,b,ha,hb,rfl,hB1⟩
 have hb1:=eq_of_list (s:=b) (m:=[49]) (by rw [hb.out];exact one_digits)
 have hat:Hid (Lib.atoiAll a.data.toList=.ok n):=Lib.hid (by rw [ha.out,Rat.num_intCast];exact atoi_itoa (by omega) (by omega))
 have hal:Hid (a.size≤1000):=Lib.hid (by
  have h1:=itoa_len_le (n:=n) (k:=20) (by omega) (by omega)
  have h2:a.size=a.data.toList.length:=rfl
  rw [h2,ha.out]
  exact Nat.le_trans h1 (by omega))
 go_wp2_with fail
 refine (atoi_any a _ hal.out hat.out).mono ?_
 rintro e w2 ⟨rfl,hB2⟩
 go_wp2_with fail
 go_ret2
 exact ⟨rfl,qbl⟩
end Go.Proofs.YtbbclfbpllbbbaaGreatDoor
