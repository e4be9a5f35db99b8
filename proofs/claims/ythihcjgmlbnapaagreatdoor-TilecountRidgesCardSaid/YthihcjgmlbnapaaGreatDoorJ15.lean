/- Joined texts: WOpsX, EncPlain, SgnPlain, WSFloor, WSgn, WGlo4, WSMul, WCalc, WStart, WRebuild, WVec, WVec2, WRebRat, WVLen, WRSub, WVecW, WHipC, WNoNum. -/
import Derived.Test.YthihcjgmlbnapaaGreatDoorJ14
import Derived.Test.YthihcjgmlbnapaaGreatDoorJ09
import Derived.Test.YthihcjgmlbnapaaGreatDoorJ12
import Derived.Test.YthihcjgmlbnapaaGreatDoorJ01
import Derived.FnData
import Derived.Test.YthihcjgmlbnapaaGreatDoorJ04
import Derived.Test.YthihcjgmlbnapaaGreatDoorJ13
set_option maxRecDepth 100000
set_option linter.unusedVariables false
set_option linter.unusedSimpArgs false
set_option maxHeartbeats 12800000
namespace Go.Proofs.YthihcjgmlbnapaaGreatDoor
open Go.RowKit
def RetMX (f:Nat→Rat) (D:Option Rat) (N:Nat) (w:World) (e:Ending) (w':World):Prop:=∃ (u:Value) (c:Int) (L':TTexts),e=.returned (.tuple #[u,.int .i64 c])∧IsTerms w' u L'∧Hid (c=0→L'.length≤max N 1∧∃ T,ResT L' T∧Near0 (fun P=>valT T P - f P)∧∀ p,D=some p→T=oneT p 1)∧Hid (∀ p,D=some p→c=0)∧Below w.heap.size w w'
theorem RetMF.x {C:Prop} {f:Nat→Rat} {N:Nat} {w w':World} {e:Ending} (h:RetMF C f N w e w'):RetMX f none N w e w':=by
 obtain ⟨u,c,L',he,hu,hT,_,hB⟩:=h
 refine ⟨u,c,L',he,hu,Lib.hid fun h0=>?_,Lib.hid (fun p h=>nomatch h),hB⟩
 obtain ⟨h3,T,h1,h2⟩:=hT.out h0
 exact ⟨by omega,T,h1,h2,fun p h=>nomatch h⟩
theorem oneSurd {p:Rat} (hp:Sz 60 p):SurdIs (oneL p 1) (oneT p 1):=oneL_is (by decide) (by decide +kernel) (.inl rfl) (longD_of_sz hp (by decide))
theorem oneT_len (S:Rat) (n:Nat):(oneT S n).length≤1:=by unfold oneT;split<;>simp
theorem RetSd.x {f:Nat→Rat} {p:Rat} {N:Nat} {w w':World} {e:Ending} (h:RetSd (oneL p 1) w e w') (hp:Sz 60 p) (hf:∀ P,f P=p):RetMX f (some p) N w e w':=by
 obtain ⟨u,he,hu,hB⟩:=h
 refine ⟨u,0,oneL p 1,he,hu,Lib.hid fun _=>⟨by have:=oneL_len p 1;omega,oneT p 1,(oneSurd hp).res (Nat.le_trans (oneL_len p 1) (by decide)),Near0.zero fun P=>?_,fun q h=>by cases h;rfl⟩,Lib.hid (fun _ _=>rfl),hB⟩
 rw [hf P,valT_oneT];grind
theorem ResT.cls {L:TTexts} {T:Terms} (h:ResT L T):L=clsL T:=by
 refine List.ext_getElem (by simp [clsL,h.same]) fun i h1 h2=>?_
 have g1:tt L i=L[i]:=by simp [tt,h1]
 have hi:i < T.length:=by rw [h.same];exact h1
 have g2:tq T i=T[i]:=by simp [tq,hi]
 have a:=h.c i h1
 have b:=h.r i h1
 rw [g1,g2] at a b
 simp only [clsL,List.getElem_map]
 exact Prod.ext (numS_of a) (decS_of b)
theorem clsL_one (p:Rat):clsL (oneT p 1)=oneL p 1:=by
 unfold clsL oneT oneL
 by_cases h:p=0
 ·rw [if_pos h,if_pos h];rfl
 ·rw [if_neg h,if_neg h];rfl
theorem ResT.one {L:TTexts} {p:Rat} (h:ResT L (oneT p 1)) (hp:Sz 60 p):SurdIs L (oneT p 1):=by
 rw [h.cls,clsL_one];exact oneSurd hp
theorem mem_one {p c:Rat}:∀ x ∈ scaledQ (oneT p 1) c,x.2=1∧x.1=p * c:=by
 intro x hx
 obtain ⟨y,hy,rfl⟩:=List.mem_map.1 hx
 unfold oneT at hy
 split at hy
 ·cases hy
 ·obtain rfl:=List.mem_singleton.1 hy
  exact ⟨rfl,rfl⟩
theorem gsum_two (A:Raws) (q c:Rat):gsum (A++scaledQ (oneT q 1) c)=gsum A+q * c:=by
 unfold oneT
 by_cases h:q=0
 ·rw [if_pos h,h]
  show gsum (A++[])=_
  rw [List.append_nil];grind
 ·rw [if_neg h]
  show gsum (A++[(q * c,1)])=_
  rw [gsum_snoc,tv_one]
theorem gsum_oneS (q c:Rat):gsum (scaledQ (oneT q 1) c)=q * c:=by
 have h:=gsum_two [] q c
 rw [List.nil_append] at h
 rw [h]
 show 0+q * c=_
 grind
theorem one_two {p q c d:Rat} (hp:Sz 28 (p * c)) (hq:Sz 28 (q * d)):OneC (scaledQ (oneT p 1) c++scaledQ (oneT q 1) d) 1∧gsum (scaledQ (oneT p 1) c++scaledQ (oneT q 1) d)=p * c+q * d:=by
 have e:gsum (scaledQ (oneT p 1) c++scaledQ (oneT q 1) d)=p * c+q * d:=by rw [gsum_two,gsum_oneS]
 refine ⟨oneC_all1 ?_ ?_ ?_ ?_,e⟩
 ·have:=oneT_len p 1
  have:=oneT_len q 1
  rw [List.length_append,scaledQ_length,scaledQ_length];omega
 ·exact mem_append (fun x hx=>(mem_one x hx).1) (fun x hx=>(mem_one x hx).1)
 ·exact mem_append (fun x hx=>by rw [(mem_one x hx).2];exact hp.mono (by decide)) (fun x hx=>by rw [(mem_one x hx).2];exact hq.mono (by decide))
 ·rw [e];exact longD_of_sz ((hp.add hq).mono (by decide)) (by decide)
theorem one_one {p c:Rat} (hp:Sz 28 (p * c)):OneC (scaledQ (oneT p 1) c) 1:=by
 refine oneC_all1 ?_ (fun x hx=>(mem_one x hx).1) (fun x hx=>by rw [(mem_one x hx).2];exact hp.mono (by decide)) ?_
 ·have:=oneT_len p 1
  rw [scaledQ_length];omega
 ·rw [gsum_oneS];exact longD_of_sz (hp.mono (by decide:28≤60)) (by decide)
theorem SubX_ok (T S:Terms) (D:Option Rat) (L M:TTexts) (u v:Value) (w:World) (hG:Glo w) (hP:Pri w) (hu:IsTerms w u L) (hv:IsTerms w v M) (hT:ResT L T) (hS:ResT M S) (h12:L.length+M.length≤12)
  (hD:∀ d,D=some d→∃ p q,T=oneT p 1∧S=oneT q 1∧d=p - q∧Sz 28 p∧Sz 27 q) :
  Calls Tryz.prog 32 #[u,v] w (RetMX (fun P=>valT T P - valT S P) D (L.length+M.length) w):=by
 cases D with
 | none=>exact (SubG_ok T S L M u v w hG hP hu hv hT hS h12).mono fun e w' h=>h.x
 | some d =>
  obtain ⟨p,q,rfl,rfl,rfl,hp,hq⟩:=hD d rfl
  have e1:∀ x:Rat,x * 1=x:=fun x=>by grind
  have hq1:Sz 28 (q * -1):=hq.mul (b:=1) (by unfold Sz;decide +kernel)
  obtain ⟨h1,h2⟩:=one_two (p:=p) (q:=q) (c:=1) (d:=-1) (by rwa [e1]) hq1
  rw [← toQ_scaled] at h1 h2
  rw [e1,show p+q * -1=p - q by grind] at h2
  have h:=Sub_ok (oneT p 1) (oneT q 1) 1 L M u v w hG hP hu hv (hT.one (hp.mono (by decide))) (hS.one (hq.mono (by decide))) h1
  rw [h2] at h
  exact h.mono fun e w' h=>h.x (by rw [show p - q=p+q * -1 by grind];exact (hp.add hq1).mono (by decide)) fun P=>by rw [valT_oneT,valT_oneT]
theorem ScaleX_ok (T:Terms) (q:Rat) (D:Option Rat) (L:TTexts) (v:Value) (cs:ByteArray) (w:World) (hG:Glo w) (hP:Pri w) (hv:IsTerms w v L) (hT:ResT L T) (hc:cs.data.toList=ratText q) (hsc:Sz 30 q)
  (hD:∀ d,D=some d→∃ p,T=oneT p 1∧d=p * q∧Sz 60 p∧Sz 28 (p * q)) :
  Calls Tryz.prog 86 #[v,.string cs] w (RetMX (fun P=>q * valT T P) D L.length w):=by
 cases D with
 | none=>exact (ScaleG_ok T q L v cs w hG hP hv hT hc hsc).mono fun e w' h=>h.x
 | some d =>
  obtain ⟨p,rfl,rfl,hp,hpq⟩:=hD d rfl
  have h:=Scale_ok (oneT p 1) q 1 L v cs w hG hP hv (hT.one hp) hc (hsc.mono (by decide)) (one_one hpq)
  rw [gsum_oneS] at h
  exact h.mono fun e w' h=>h.x (hpq.mono (by decide)) fun P=>by rw [valT_oneT];grind
theorem MakeN_ok (a:Rat) (s:ByteArray) (v:Value) (w:World) (hG:Glo w) (hP:Pri w) (hs:s.data.toList=ratText a) (ha:Sz 60 a) (hv:IsTerms w v [(s,⟨#[49]⟩)]) :
  Calls Tryz.prog 9 #[v] w (RetSd (oneL a 1) w):=by
 obtain ⟨h1,h2⟩:=oneC_unit ha
 have h:=Make_ok [(a,1)] 1 [(s,⟨#[49]⟩)] v w hG hP h1 ⟨rfl,fun k hk=>by
  obtain rfl:k=0:=by simpa using hk
  exact ⟨hs,show (⟨#[49]⟩:ByteArray).data.toList=ratText 1 by decide +kernel⟩⟩ hv
 rwa [h2] at h
end Go.Proofs.YthihcjgmlbnapaaGreatDoor
namespace Go.Proofs.YthihcjgmlbnapaaGreatDoor
open Go
def thQ (q:Rat):Nat:=rootN (q.num.toNat * 1000000 / q.den)
def tmK (x:Rat × Nat):Int:=if x.1.num < 0 then -((thQ (x.1 * x.1 * ((x.2:Int):Rat)):Nat):Int) else ((thQ (x.1 * x.1 * ((x.2:Int):Rat)):Nat):Int)
def smK:Terms→Int
 | []=>0
 | x::T=>tmK x+smK T
theorem smK_snoc (T:Terms) (x:Rat × Nat):smK (T++[x])=smK T+tmK x:=by
 induction T with
 | nil=>simp [smK]
 | cons y T ih=>simp only [List.cons_append,smK,ih];omega
theorem rootN_lt {s k:Nat} (h:s < 10 ^ (k+k)):rootN s < 10 ^ k:=by
 have h1:=(rootN_spec s).1
 refine Nat.lt_of_not_le fun h2=>?_
 have h3:10 ^ k * 10 ^ k≤rootN s * rootN s:=Nat.mul_le_mul h2 h2
 rw [Nat.pow_add] at h
 omega
theorem rootN_lt' {s k:Nat} (h:s < 10 ^ k * 10 ^ k):rootN s < 10 ^ k:=rootN_lt (by rw [Nat.pow_add];exact h)
theorem thQ_lt {q:Rat} (h:Sz 80 q):thQ q < 10 ^ 43:=by
 unfold thQ
 refine rootN_lt (k:=43) ?_
 refine Nat.lt_of_le_of_lt (Nat.div_le_self _ _) ?_
 have h1:q.num.toNat≤q.num.natAbs:=by omega
 have h2:q.num.toNat < 10 ^ 80:=Nat.lt_of_le_of_lt h1 h.1
 have h3:q.num.toNat * 1000000 < 10 ^ 80 * 1000000:=Nat.mul_lt_mul_of_pos_right h2 (by decide)
 exact h3
theorem sq_sz {c:Rat} {m:Nat} (hc:Sz 20 c) (hm:m < 10 ^ 40):Sz 40 (c * c)∧Sz 80 (c * c * ((m:Int):Rat)):=by
 have h1:Sz 40 (c * c):=hc.mul hc
 exact ⟨h1,h1.mul (b:=40) (sz_natR hm (by decide))⟩
theorem sq_nonneg {c:Rat} {m:Nat}:0≤(c * c * ((m:Int):Rat)).num:=by
 rw [Rat.num_nonneg]
 refine Rat.mul_nonneg ?_ Rat.natCast_nonneg
 rcases (Rat.le_total:0≤c∨c≤0) with h|h
 ·exact Rat.mul_nonneg h h
 ·have h2:0≤-c:=by grind
  have:=Rat.mul_nonneg h2 h2
  grind
def Short20 (T:Terms):Prop:=∀ x ∈ T,Sz 20 x.1∧x.2 < 10 ^ 40
theorem tmK_lt {x:Rat × Nat} (hc:Sz 20 x.1) (hm:x.2 < 10 ^ 40):(tmK x).natAbs < 10 ^ 43:=by
 have h:=thQ_lt (sq_sz hc hm).2
 unfold tmK
 split<;>omega
theorem smK_le {T:Terms} (h:Short20 T):(smK T).natAbs≤T.length * 10 ^ 43:=by
 induction T with
 | nil=>simp [smK]
 | cons x T ih =>
  have h1:=tmK_lt (h x (by simp)).1 (h x (by simp)).2
  have h2:=ih fun y hy=>h y (by simp [hy])
  simp only [smK,List.length_cons,Nat.succ_mul]
  omega
theorem Short20.take {T:Terms} (h:Short20 T) (k:Nat):Short20 (T.take k):=fun x hx=>h x (List.mem_of_mem_take hx)
theorem smK_lt {T:Terms} (h:Short20 T) (hl:T.length≤12):(smK T).natAbs < 10 ^ 45:=by
 have h1:=smK_le h
 have h2:T.length * 10 ^ 43≤12 * 10 ^ 43:=Nat.mul_le_mul_right _ hl
 have h3:12 * 10 ^ 43 < 10 ^ 45:=by decide
 omega
theorem sz_thou {k:Int} {n:Nat} (h:k.natAbs < 10 ^ n) (hn:4≤n):Sz n ((k:Rat) / 1000):=by
 have e:(k:Rat) / 1000=Rat.divInt k 1000:=by rw [Rat.divInt_eq_div];rfl
 rw [e]
 exact sz_divInt (by decide) h (Nat.lt_of_lt_of_le (show (1000:Int).natAbs < 10 ^ 4 by decide) (Nat.pow_le_pow_right (by decide) hn))
theorem thou_add (a b:Int):(a:Rat) / 1000+(b:Rat) / 1000=((a+b:Int):Rat) / 1000:=by rw [Rat.intCast_add];grind
theorem thou_neg (a:Int):0 - (a:Rat) / 1000=((-a:Int):Rat) / 1000:=by rw [Rat.intCast_neg];grind
theorem floor_thou (k:Int):((k:Rat) / 1000).floor=k / 1000:=by
 have h1:k / 1000≤((k:Rat) / 1000).floor:=Rat.le_floor_iff.2 (by
  have:((k / 1000 * 1000:Int):Rat)≤(k:Rat):=Rat.intCast_le_intCast.2 (by omega)
  rw [Rat.intCast_mul] at this
  have e:((1000:Int):Rat)=1000:=rfl
  rw [e] at this
  grind)
 have h2:¬ k / 1000+1≤((k:Rat) / 1000).floor:=fun h=>by
  have h:=Rat.le_floor_iff.1 h
  have:(k:Rat) < (((k / 1000+1) * 1000:Int):Rat):=Rat.intCast_lt_intCast.2 (by omega)
  rw [Rat.intCast_mul] at this
  have e:((1000:Int):Rat)=1000:=rfl
  rw [e] at this
  grind
 omega
theorem SgnIs.near {f g:Nat→Rat} {s:Int} (h:SgnIs f s) (n:Near0 (fun P=>f P - g P)):SgnIs g s:=by
 rcases h with ⟨e,h⟩|⟨e,h⟩|⟨e,h⟩
 ·exact .inl ⟨e,h.near (n.mul (k:=-1) fun P=>rfl) fun P=>by grind⟩
 ·exact .inr (.inl ⟨e,h.near n fun P=>by grind⟩)
 ·exact .inr (.inr ⟨e,h.add (n.mul (k:=-1) (h:=fun P=>-1 * (f P - g P)) fun P=>rfl) fun P=>by grind⟩)
theorem SgnIs.neg {f g:Nat→Rat} {s:Int} (h:SgnIs f s) (e:∀ P,g P=- f P):SgnIs g (-s):=by
 rcases h with ⟨e1,h⟩|⟨e1,h⟩|⟨e1,h⟩
 ·refine .inr (.inl ⟨by rw [e1],?_⟩)
  have:(fun P=>- g P)=f:=funext fun P=>by rw [e P];grind
  rw [this];exact h
 ·refine .inl ⟨by rw [e1];rfl,?_⟩
  have:g=fun P=>- f P:=funext e
  rw [this];exact h
 ·exact .inr (.inr ⟨by rw [e1];rfl,h.mul (k:=-1) fun P=>by rw [e P];grind⟩)
end Go.Proofs.YthihcjgmlbnapaaGreatDoor
namespace Go.Proofs.YthihcjgmlbnapaaGreatDoor
open Go
def itS (z:Int):ByteArray:=⟨(Lib.itoa z).toArray⟩
theorem itS_list (z:Int):(itS z).data.toList=Lib.itoa z:=by simp [itS]
theorem itS_of {s:ByteArray} {z:Int} (h:s.data.toList=Lib.itoa z):s=itS z:=by
 apply ByteArray.ext
 apply Array.toList_inj.1
 rw [h,itS_list]
theorem flS_snoc (p:Nat) (T:Terms) (x:Rat × Nat):flS p (T++[x])=flS p T+flI x.1 x.2 p:=by
 induction T with
 | nil=>simp [flS]
 | cons y T ih=>simp only [List.cons_append,flS,ih];omega
theorem flI_le {q:Rat} {m p:Nat} (hq:Sz 60 q) (hm:m < 10 ^ 40) (hp:p≤64):(flI q m p).natAbs≤10 ^ 145:=by
 have hs:q.num.natAbs * q.num.natAbs * m * (10 ^ p * 10 ^ p) < 10 ^ 144 * 10 ^ 144:=by
  have h1:q.num.natAbs * q.num.natAbs < 10 ^ 60 * 10 ^ 60:=Nat.mul_lt_mul'' hq.1 hq.1
  have h2:q.num.natAbs * q.num.natAbs * m < 10 ^ 60 * 10 ^ 60 * 10 ^ 40:=Nat.mul_lt_mul'' h1 hm
  have h3:10 ^ p≤10 ^ 64:=Nat.pow_le_pow_right (by decide) hp
  have h4:10 ^ p * 10 ^ p≤10 ^ 64 * 10 ^ 64:=Nat.mul_le_mul h3 h3
  have h5:q.num.natAbs * q.num.natAbs * m * (10 ^ p * 10 ^ p) < 10 ^ 60 * 10 ^ 60 * 10 ^ 40 * (10 ^ 64 * 10 ^ 64) :=
   Nat.lt_of_le_of_lt (Nat.mul_le_mul_left _ h4) (Nat.mul_lt_mul_of_pos_right h2 (by decide))
  exact Nat.lt_of_lt_of_le h5 (by decide)
 have hr:=rootN_lt' hs
 have hd:rootN (q.num.natAbs * q.num.natAbs * m * (10 ^ p * 10 ^ p)) / q.den≤rootN (q.num.natAbs * q.num.natAbs * m * (10 ^ p * 10 ^ p)):=Nat.div_le_self _ _
 have he:(10:Nat) ^ 144+1≤10 ^ 145:=by decide
 unfold flI
 dsimp only
 clear hs
 generalize rootN (q.num.natAbs * q.num.natAbs * m * (10 ^ p * 10 ^ p))=r at *
 generalize r / q.den=d at *
 generalize (10:Nat) ^ 144=X at *
 generalize (10:Nat) ^ 145=Y at *
 split
 ·split<;>omega
 ·omega
def Mid60 (T:Terms):Prop:=∀ x ∈ T,Sz 60 x.1∧x.2 < 10 ^ 40
theorem Mid60.take {T:Terms} (h:Mid60 T) (k:Nat):Mid60 (T.take k):=fun x hx=>h x (List.mem_of_mem_take hx)
theorem flS_le {T:Terms} {p:Nat} (h:Mid60 T) (hp:p≤64):(flS p T).natAbs≤T.length * 10 ^ 145:=by
 induction T with
 | nil=>simp [flS]
 | cons x T ih =>
  have h1:=flI_le (h x (by simp)).1 (h x (by simp)).2 hp
  have h2:=ih fun y hy=>h y (by simp [hy])
  simp only [flS,List.length_cons,Nat.succ_mul]
  omega
theorem flS_fit {T:Terms} {p:Nat} (h:Mid60 T) (hp:p≤64) (hl:T.length≤12) (j:Nat) (hj:j≤12):Fit (flS p T+(j:Int)):=by
 have h1:=flS_le h hp
 have h2:T.length * 10 ^ 145≤12 * 10 ^ 145:=Nat.mul_le_mul_right _ hl
 have h3:12 * 10 ^ 145+12 < 10 ^ 150:=by decide
 exact fit_of_lt (Nat.lt_of_lt_of_le (show (flS p T+(j:Int)).natAbs < 10 ^ 150 by omega) (pow10_le (a:=150) (b:=300) (by decide)))
theorem flI_fit {q:Rat} {m p:Nat} (hq:Sz 60 q) (hm:m < 10 ^ 40) (hp:p≤64):Fit (flI q m p) :=
 fit_of_lt (Nat.lt_of_le_of_lt (flI_le hq hm hp) (Nat.lt_of_lt_of_le (Nat.pow_lt_pow_right (by decide) (by decide:145 < 146)) (pow10_le (a:=146) (b:=300) (by decide))))
theorem ResT.mid {L:TTexts} {T:Terms} (h:ResT L T):Mid60 T:=by
 intro x hx
 obtain ⟨k,hk,rfl⟩:=List.getElem_of_mem hx
 have hk2:k < L.length:=by rw [← h.same];exact hk
 have h1:=h.cz k hk2
 have h2:=h.rn k hk2
 rw [tq_get hk] at h1 h2
 exact ⟨longD_sz h1,lenSz h2⟩
theorem cmp0 (x:Int):(0 < x∧Lib.compareInt x 0=1)∨(x=0∧Lib.compareInt x 0=0)∨(x < 0∧Lib.compareInt x 0=-1):=by
 unfold Lib.compareInt
 by_cases h:x < 0
 ·right;right;exact ⟨h,if_pos h⟩
 ·by_cases h2:x=0
  ·right;left;exact ⟨h2,by rw [h2];rfl⟩
  ·left;exact ⟨by omega,by rw [if_neg h,if_pos (by omega)]⟩
def plN (j:Nat):Nat:=[4,16,64].getD j 0
theorem plN_le {j:Nat} (h:j < 3):plN j≤64:=by
 have:j=0∨j=1∨j=2:=by omega
 rcases this with rfl|rfl|rfl<;>decide
theorem pl_drop {j:Nat} (h:j < 3):[4,16,64].drop j=plN j::[4,16,64].drop (j+1):=by
 have:j=0∨j=1∨j=2:=by omega
 rcases this with rfl|rfl|rfl<;>rfl
theorem pl_last {j:Nat} (h:j < 3):[4,16,64].drop (j+1)=[]↔j=2:=by
 have:j=0∨j=1∨j=2:=by omega
 rcases this with rfl|rfl|rfl<;>decide
end Go.Proofs.YthihcjgmlbnapaaGreatDoor
namespace Go.Proofs.YthihcjgmlbnapaaGreatDoor
open Go.RowKit Go.Shelf
theorem itoa_byte {N:Int} {a:ByteArray} (h:a.data.toList=Lib.itoa N):∃ h0:0 < a.size,((a[0].toNat:Int) == 45)=decide (N < 0):=by
 have h0:0 < a.size:=by
  have h1:a.size=a.data.toList.length:=rfl
  rw [h1,h]
  rcases itoa_cases N with ⟨_,e⟩|⟨_,e⟩<;>rw [e]
  ·simp
  ·exact List.length_pos_iff.2 (decDigits_ne _)
 refine ⟨h0,?_⟩
 rcases itoa_cases N with ⟨hn,e⟩|⟨hn,e⟩
 ·rw [decide_eq_true hn]
  exact headq45' h0 (by rw [h,e];rfl)
 ·rw [decide_eq_false (by omega)]
  refine Bool.eq_false_iff.2 fun h'=>?_
  have h2:=headq45 h0 h'
  rw [h,e] at h2
  exact decDigits_no45 N.natAbs [] (by rw [List.append_nil];exact h2)
theorem root_succ {S R D:Nat} (hF:Fit (S:Int)) (hR:R * R≤S) (hD:0 < D):Fit (((R / D:Nat):Int)+1):=by
 have h1:R / D≤R:=Nat.div_le_self _ _
 generalize R / D=Q at *
 by_cases h:R≤1
 ·have h2:((Q:Int)+1)=1∨((Q:Int)+1)=2:=by omega
  rcases h2 with e|e<;>rw [e]<;>unfold Fit<;>decide +kernel
 ·have h2:2 * R≤R * R:=Nat.mul_le_mul_right _ (by omega)
  have h3:=fit_lt (n:=Q+1) (show Q+1≤S by omega) hF
  exact h3
theorem flI_eq (c:Rat) (m p:Nat) (N:Int) (D S:Nat) (hN:c.num=N) (hD:c.den=D) (hS:N.natAbs * N.natAbs * m * (10 ^ p * 10 ^ p)=S) :
  (¬ N < 0→flI c m p=((rootN S / D:Nat):Int))∧(N < 0→rootN S * rootN S=S∧rootN S % D=0→flI c m p=0 - ((rootN S / D:Nat):Int))∧(N < 0→¬ (rootN S * rootN S=S∧rootN S % D=0)→flI c m p=0 - (((rootN S / D:Nat):Int)+1)):=by
 unfold flI
 rw [hN,hD,hS]
 refine ⟨fun h=>?_,fun h1 h2=>?_,fun h1 h2=>?_⟩
 ·simp only [if_neg h]
 ·simp only [if_pos h1,if_pos h2,Nat.add_zero];omega
 ·simp only [if_pos h1,if_neg h2];omega
theorem sfloor_ok (q:Rat) (m p:Nat) (c r:ByteArray) (w:World) (hG:Glo w) (hc:c.data.toList=ratText q) (hr:r.data.toList=Lib.decDigits m) (hq:Sz 60 q) (hm:m < 10 ^ 40) (hp:p≤64) :
  Calls Tryz.prog 72 #[.agg #[.string c,.string r],.int .i64 p] w (RetS (Lib.itoa (flI q m p)) w):=by
 have hri:r.data.toList=Lib.itoa (m:Int):=by rw [hr,itoa_natCast]
 have HPA:=Lib.hid (fun W hG=>PartsQ_ok (k:=60) c W hG hc hq (by decide))
 obtain ⟨N,hN⟩:∃ N,q.num=N:=⟨_,rfl⟩
 obtain ⟨D,hD⟩:∃ D,q.den=D:=⟨_,rfl⟩
 have hD0:0 < D:=by rw [← hD];exact q.den_pos
 have hN1:N.natAbs < 10 ^ 60:=by rw [← hN];exact hq.1
 have hD1:D < 10 ^ 60:=by rw [← hD];exact hq.2
 rw [hN,hD] at HPA
 obtain ⟨S,hS⟩:∃ S,N.natAbs * N.natAbs * m * (10 ^ p * 10 ^ p)=S:=⟨_,rfl⟩
 obtain ⟨f1,f2,f3⟩:=flI_eq q m p N D S hN hD hS
 obtain ⟨V,hV⟩:∃ V,flI q m p=V:=⟨_,rfl⟩
 rw [hV] at f1 f2 f3 ⊢
 have hUL:10 ^ (2 * p) < 10 ^ 129:=Nat.pow_lt_pow_right (by decide) (by omega)
 have HTX:=Lib.hid (fun (r:ByteArray) (hr:r.data.toList=List.replicate (2 * p) 48)=>(by
  rw [itoa_natCast,dec_pow10,← hr];simp:((⟨#[49]⟩:ByteArray)++r).data.toList=Lib.itoa ((10 ^ (2 * p):Nat):Int)))
 have hSe:N * N * (m:Int) * ((10 ^ (2 * p):Nat):Int)=(S:Int):=by
  rw [← hS,Nat.two_mul,Nat.pow_add]
  simp only [Int.natCast_mul]
  rw [← Int.natCast_mul N.natAbs N.natAbs,Int.natAbs_mul_self]
 obtain ⟨U,hU⟩:∃ U,10 ^ (2 * p)=U:=⟨_,rfl⟩
 rw [hU] at hUL HTX hSe
 have hm1:((m:Nat):Int).natAbs < 10 ^ 40:=by simpa using hm
 have hU1:((U:Nat):Int).natAbs < 10 ^ 129:=by simpa using hUL
 have F0:Fit N:=fit_of_lt (pow300 hN1 (by decide))
 have F1:Fit (N * N):=fit_mul hN1 hN1 (by decide)
 have Fm:Fit (m:Int):=fit_of_lt (pow300 hm1 (by decide))
 have F2:Fit (N * N * (m:Int)):=fit_mul (mul_lt hN1 hN1) hm1 (by decide)
 have FU:Fit (U:Int):=fit_of_lt (pow300 hU1 (by decide))
 have F3:Fit (S:Int):=by rw [← hSe];exact fit_mul (mul_lt (mul_lt hN1 hN1) hm1) hU1 (by decide)
 have FD:Fit (D:Int):=fit_of_lt (pow300 (k:=60) (by simpa using hD1) (by decide))
 obtain ⟨R,hR⟩:∃ R,rootN S=R:=⟨_,rfl⟩
 rw [hR] at f1 f2 f3
 have hRS:R * R≤S:=by rw [← hR];exact (rootN_spec S).1
 have FRR:Fit ((R:Int) * (R:Int)):=by
  rw [show (R:Int) * (R:Int)=((R * R:Nat):Int) by push_cast;rfl]
  exact fit_lt hRS F3
 have FR:Fit (R:Int):=fit_lt (Nat.le_trans (Nat.le_mul_self _) hRS) F3
 have FQ:Fit ((R / D:Nat):Int):=fit_lt (Nat.div_le_self _ _) FR
 have FQ1:Fit (((R / D:Nat):Int)+1):=root_succ F3 hRS hD0
 have HM1:=Lib.hid (fun (a:ByteArray) W hG ha=>(Imul_ok N N a a W hG ha F0 ha F0).mono fun e w' h=>h.1 F1)
 have HM2:=Lib.hid (fun (a:ByteArray) W hG ha=>(Imul_ok (N * N) m a r W hG ha F1 hri Fm).mono fun e w' h=>h.1 F2)
 have HM3:=Lib.hid (fun (a b:ByteArray) W hG ha hb=>(by rw [← hSe] at F3;rw [← hSe];exact (Imul_ok (N * N * m) U a b W hG ha F2 hb FU).mono fun e w' h=>h.1 F3:Calls Tryz.prog 111 #[.string a,.string b] W (RetI (S:Int) W)))
 have HRT:=Lib.hid (fun (a:ByteArray) W hG (ha:a.data.toList=Lib.itoa (S:Int))=>(by
  rw [itoa_natCast] at ha
  rw [← hR]
  refine Root_ok S a W hG ha ?_
  have h1:a.size=a.data.toList.length:=rfl
  rw [h1,ha]
  exact F3:Calls Tryz.prog 134 #[.string a] W (RetI (R:Nat) W)))
 have HDV:=Lib.hid (fun (a b:ByteArray) W hG ha (hb:b.data.toList=Lib.decDigits D)=>(by
  have h:=IDivide_ok (R:Int) (D:Int) a b W hG ha FR (by rw [hb,itoa_natCast]) FD (by omega) (.inr (by omega))
  rw [← Int.natCast_ediv,← Int.natCast_emod] at h
  exact h:Calls Tryz.prog 81 #[.string a,.string b] W (RetQR ((R / D:Nat):Int) ((R % D:Nat):Int) W)))
 have HM4:=Lib.hid (fun (a:ByteArray) W hG ha=>(Imul_ok (R:Int) (R:Int) a a W hG ha FR ha FR).mono fun e w' h=>h.1 FRR)
 have HEQ:=Lib.hid (fun (t s:ByteArray) (ht:t.data.toList=Lib.itoa ((R:Int) * (R:Int))) (hs:s.data.toList=Lib.itoa (S:Int))=>(by
  rw [show (R:Int) * (R:Int)=((R * R:Nat):Int) by push_cast;rfl,itoa_natCast] at ht
  rw [itoa_natCast] at hs
  rw [Lib.toList_data,Lib.toList_data,ht,hs]
  by_cases h:R * R=S
  ·rw [decide_eq_true h,← h];simp
  ·rw [decide_eq_false h,beq_eq_false_iff_ne]
   exact fun h2=>h (dec_inj h2):(t.toList == s.toList)=decide (R * R=S)))
 have HEZ:=Lib.hid (fun (t:ByteArray) (ht:t.data.toList=Lib.itoa ((R % D:Nat):Int))=>(by
  rw [Lib.toList_data,ht]
  by_cases h:R % D=0
  ·rw [decide_eq_true h,h];decide +kernel
  ·rw [decide_eq_false h,beq_eq_false_iff_ne]
   exact itoa_ne0 (by omega):(t.toList == [48])=decide (R % D=0)))
 generalize R / D=Q at *
 have HA1:=Lib.hid (fun (a:ByteArray) W hG ha=>(Iadd_ok (Q:Int) 1 a ⟨#[49]⟩ W hG ha FQ (by decide +kernel) (by unfold Fit;decide +kernel)).mono fun e w' h=>h.1 FQ1)
 have fneg:∀ x:Int,Fit x→Fit (0 - x):=fun x h=>fit_le (by omega) h
 have HN1:=Lib.hid (fun (a:ByteArray) W hG ha=>(Isub_ok 0 (Q:Int) ⟨#[48]⟩ a W hG (by decide +kernel) (by unfold Fit;decide +kernel) ha FQ).mono fun e w' h=>h.1 (fneg _ FQ))
 have HN2:=Lib.hid (fun (a:ByteArray) W hG ha=>(Isub_ok 0 ((Q:Int)+1) ⟨#[48]⟩ a W hG (by decide +kernel) (by unfold Fit;decide +kernel) ha FQ1).mono fun e w' h=>h.1 (fneg _ FQ1))
 have HRP:=Lib.hid (fun W=>repeat0_any (2 * p) W (by omega))
 have hw2:IntKind.i64.wrap (2 * (p:Int))=((2 * p:Nat):Int):=IntWalk.i64_in _ (by omega)
 have HIB:=Lib.hid (fun (a:ByteArray) ha=>itoa_byte (N:=N) (a:=a) ha)
 have HF1:=Lib.hid f1
 have HF2:=Lib.hid f2
 have HF3:=Lib.hid f3
 have HG:=Lib.hid hG
 obtain ⟨bn,hbn⟩:∃ b,decide (N < 0)=b:=⟨_,rfl⟩
 rw [hbn] at HIB
 have HBN:=Lib.hid hbn
 clear hbn f1 f2 f3 hG hc hr hq hm hri hN hD hD0 hN1 hD1 hS hV hUL hSe hU hm1 hU1 F0 F1 Fm F2 FU F3 FD hR hRS FRR FR FQ FQ1 fneg
 go_enter Tryz.func72,Tryz.ntmps72
 go_wp2_with fail
 have hb0:Below w.heap.size w (w.alloc (.cells #[.string c,.string r] 49)):=qbl
 have x0:(w.alloc (.cells #[.string c,.string r] 49)).cell? ⟨w.heap.size,1,none⟩=some (.string r):=by simp [go_sem]
 generalize w.alloc (.cells #[.string c,.string r] 49)=W0 at *
 refine (HPA.out _ (HG.out.below hb0)).mono ?_
 rintro e w1 ⟨sn,sd,hn,hd,rfl,hB1⟩
 have hb1:=below_trans' hb0 hB1
 have x1:=keep hB1 x0
 obtain ⟨h0,hby⟩:=HIB.out sn hn.out
 clear hB1 HPA hb0 x0 HIB
 go_wp2_with fail
 refine (HM1.out sn _ (HG.out.below hb1) hn.out).mono ?_
 rintro e w2 ⟨s1,h1,rfl,hB2⟩
 have hb2:=below_trans' hb1 hB2
 have x2:=keep hB2 x1
 have H1:=Lib.hid h1
 clear hB2 HM1 hb1 x1 h1 hn
 go_wp2_with fail
 refine (HM2.out s1 _ (HG.out.below hb2) H1.out).mono ?_
 rintro e w3 ⟨s2,h2,rfl,hB3⟩
 have hb3:=below_trans' hb2 hB3
 have H2:=Lib.hid h2
 clear hB3 HM2 hb2 x2 h2 H1
 go_wp2_with fail
 refine (HRP.out _).mono ?_
 rintro e w4 ⟨rp,hrp,rfl,hB4⟩
 have hb4:=below_trans' hb3 hB4
 have HT:=Lib.hid (HTX.out rp hrp)
 have hzr:rp.size≤300:=by
  have h1:rp.size=rp.data.toList.length:=rfl
  rw [h1,hrp];simp;omega
 clear hB4 HRP hb3 hrp HTX
 go_wp2_with fail
 generalize ((⟨#[49]⟩:ByteArray)++rp)=TX at *
 refine (HM3.out s2 TX _ (HG.out.below hb4) H2.out HT.out).mono ?_
 rintro e w5 ⟨s3,h3,rfl,hB5⟩
 have hb5:=below_trans' hb4 hB5
 have H3:=Lib.hid h3
 clear hB5 HM3 hb4 h3 H2 HT hzr
 go_wp2_with fail
 refine (HRT.out s3 _ (HG.out.below hb5) H3.out).mono ?_
 rintro e w6 ⟨s4,h4,rfl,hB6⟩
 have hb6:=below_trans' hb5 hB6
 have H4:=Lib.hid h4
 clear hB6 HRT hb5 h4
 go_wp2_with fail
 refine (HDV.out s4 sd _ (HG.out.below hb6) H4.out hd.out).mono ?_
 rintro e w7 ⟨s5,s6,h5,h6,rfl,hB7⟩
 have hb7:=below_trans' hb6 hB7
 have H5:=Lib.hid h5
 have he6:=HEZ.out s6 h6
 clear hB7 HDV hb6 h5 h6 hd HEZ
 cases bn
 ·have HV:Hid (V=(Q:Int)):=Lib.hid (HF1.out (by have:=of_decide_eq_false HBN.out;omega))
  clear HF1 HF2 HF3 HBN he6
  go_wp2_with fail
  go_ret
  exact ⟨s5,by rw [HV.out];exact H5.out,rfl,hb7⟩
 ·have hneg:=of_decide_eq_true HBN.out
  have G2:=Lib.hid (HF2.out hneg)
  have G3:=Lib.hid (HF3.out hneg)
  clear HF1 HF2 HF3 HBN hneg
  go_wp2_with fail
  refine (HM4.out s4 _ (HG.out.below hb7) H4.out).mono ?_
  rintro e w8 ⟨s7,h7,rfl,hB8⟩
  have hb8:=below_trans' hb7 hB8
  have he7:=HEQ.out s7 s3 h7 H3.out
  clear hB8 HM4 hb7 h7 HEQ
  by_cases e1:R * R=S
  ·rw [decide_eq_true e1] at he7
   by_cases e2:R % D=0
   ·rw [decide_eq_true e2] at he6
    have HV:=Lib.hid (G2.out ⟨e1,e2⟩)
    clear G2 G3 e1 e2
    go_wp2_with fail
    refine (HN1.out s5 _ (HG.out.below hb8) H5.out).mono ?_
    rintro e w9 ⟨s8,h8,rfl,hB9⟩
    have hb9:=below_trans' hb8 hB9
    have H8:=Lib.hid h8
    clear hB9 h8
    go_wp2_with fail
    go_ret
    exact ⟨s8,by rw [HV.out];exact H8.out,rfl,hb9⟩
   ·rw [decide_eq_false e2] at he6
    have HV:=Lib.hid (G3.out fun h=>e2 h.2)
    clear G2 G3 e1 e2
    go_wp2_with fail
    refine (HA1.out s5 _ (HG.out.below hb8) H5.out).mono ?_
    rintro e w9 ⟨s8,h8,rfl,hB9⟩
    have hb9:=below_trans' hb8 hB9
    have H8:=Lib.hid h8
    clear hB9 h8
    go_wp2_with fail
    refine (HN2.out s8 _ (HG.out.below hb9) H8.out).mono ?_
    rintro e w10 ⟨s9,h9,rfl,hB10⟩
    have hb10:=below_trans' hb9 hB10
    have H9:=Lib.hid h9
    clear hB10 h9
    go_wp2_with fail
    go_ret
    exact ⟨s9,by rw [HV.out];exact H9.out,rfl,hb10⟩
  ·rw [decide_eq_false e1] at he7
   have HV:=Lib.hid (G3.out fun h=>e1 h.1)
   clear G2 G3 e1 he6
   go_wp2_with fail
   refine (HA1.out s5 _ (HG.out.below hb8) H5.out).mono ?_
   rintro e w9 ⟨s8,h8,rfl,hB9⟩
   have hb9:=below_trans' hb8 hB9
   have H8:=Lib.hid h8
   clear hB9 h8
   go_wp2_with fail
   refine (HN2.out s8 _ (HG.out.below hb9) H8.out).mono ?_
   rintro e w10 ⟨s9,h9,rfl,hB10⟩
   have hb10:=below_trans' hb9 hB10
   have H9:=Lib.hid h9
   clear hB10 h9
   go_wp2_with fail
   go_ret
   exact ⟨s9,by rw [HV.out];exact H9.out,rfl,hb10⟩
end Go.Proofs.YthihcjgmlbnapaaGreatDoor
namespace Go.Proofs.YthihcjgmlbnapaaGreatDoor
open Go.RowKit Go.Shelf
def placesL:List Value:=[.int .i64 4,.int .i64 16,.int .i64 64]
def placesV:Value:=.agg placesL.toArray
theorem places_get {j:Nat} (h:j < 3):placesL[j]?=some (.int .i64 (plN j:Int)):=by
 have:j=0∨j=1∨j=2:=by omega
 rcases this with rfl|rfl|rfl<;>rfl
def SPl (w:World):Prop:=∀ j,j < 3→w.cell? ⟨1,j,none⟩=some (.int .i64 (plN j:Int))
theorem SPl.below {w w':World} (h:SPl w) (hB:Below w.heap.size w w'):SPl w':=fun i hi=>keep hB (h i hi)
theorem spl_cells {w:World} (h:SPl w):Sem.run Tryz.prog (loadCellsFrom ⟨1,0,none⟩ 0 3 #[]) w=.ok placesL.toArray w:=by
 have key:=run_loadCells_list (P:=Tryz.prog) (w:=w) ⟨1,0,none⟩ placesL ?_
 ·simpa [loadCells,placesL] using key
 intro j v hj
 have hlt:j < 3:=(List.getElem?_eq_some_iff.1 hj).1
 rw [addr_add',Nat.zero_add]
 rw [places_get hlt] at hj
 injection hj with hj
 rw [← hj]
 exact h j hlt
theorem spl_load {w:World} (h:SPl w):(loadVar 143 ⟨1,0,none⟩).run Tryz.prog w=.ok placesV w:=by
 have hl:=spl_cells h
 have ha:=Tryz.isAgg143
 have hz:=Tryz.sizeOf143
 simp only [loadVar,loadCells,Sem.run_bind,ha,hz,hl,Result.andThen_ok,Sem.run_pure,if_true,Sem.run_ite]
 rfl
theorem wpList_spl {ops:Array Oper} {rest:List Oper} {o:Oper} {a:Act} {Q:Exit→Act→World→Prop} {w:World} (hg:o.guard=none) (p:Operand) (ho:o.op=.load 143 p) (hP:SPl w)
  (hp:a.eval p=.pointer (some ⟨1,0,none⟩)) (h:wpList Tryz.prog ops Q rest (a.put o.dst placesV) w):wpList Tryz.prog ops Q (o::rest) a w :=
 wpList_plain hg fun _ hK=>by
  unfold Oper.wp execOp
  simp only [ho,hp,Instr.loadAt,Instr.sureAddr,Sem.run_bind,Sem.run_pure,Result.andThen_ok,spl_load hP]
  exact hK _ _ h
theorem spl_index (i:Nat) (h:i < 3) (W:World):(Instr.index 143 placesV (.int .i64 (i:Int))).run Tryz.prog W=.ok (.int .i64 (plN i:Int)) W:=by
 have hu:=Tryz.underlying143
 have h1:(0:Int)≤(i:Int)∧(i:Int) < 3:=by omega
 have hs:=Tryz.sizeOf3
 have ha:=Tryz.isAgg3
 have hg:=places_get h
 unfold Instr.index placesV
 simp [go_sem,hu,hs,ha,h1,hg,h,asIntOf,part]
theorem RetS.it {z:Int} {w w':World} {e:Ending} (h:RetS (Lib.itoa z) w e w'):RetB (.string (itS z)) w e w':=by
 obtain ⟨s,hs,he,hB⟩:=h
 obtain rfl:=itS_of hs
 exact ⟨he,hB⟩
theorem RetI.it {z:Int} {w w':World} {e:Ending} (h:RetI z w e w'):RetB (.tuple #[.string (itS z),.int .i64 0]) w e w':=by
 obtain ⟨s,hs,he,hB⟩:=h
 obtain rfl:=itS_of hs
 exact ⟨he,hB⟩
theorem sign_ok (T:Terms) (v:Value) (w:World) (hG:Glo w) (hS:SPl w) (hv:IsTerms w v (clsL T)) (hm:Mid60 T) (hl:T.length≤12) :
  Calls Tryz.prog 33 #[v] w (RetB (.tuple #[.int .i64 (sgnF T).1,.int .i64 (sgnF T).2]) w):=by
 have hlen:=clsL_length T
 obtain ⟨a,cap,rfl,hcap,hc⟩:=hv
 have HC:=Lib.hid hc
 rw [hlen] at hcap ⊢
 by_cases h0:T=[]
 ·subst h0
  clear hc HC hG hS
  have e:(sgnF [])=(0,0):=rfl
  rw [e]
  go_enter Tryz.func33,Tryz.ntmps33
  go_wp2_with fail
  refine bodyPost_ret (v:=.tuple #[.int .i64 0,.int .i64 0]) (by simp [results,Tryz.results33,go_sem]) rfl ?_
  exact ⟨rfl,qbl⟩
 ·have hl0:¬ ((T.length:Int)=0):=by
   have:=List.length_pos_iff.2 h0
   omega
  have hRES:sgnF T=sgnL [4,16,64] T:=if_neg h0
  rw [hRES]
  obtain ⟨rs,rc,hR⟩:∃ rs rc,sgnL [4,16,64] T=(rs,rc):=by
   cases sgnL [4,16,64] T with|mk x y=>exact ⟨x,y,rfl⟩
  rw [hR]
  have HR0:=Lib.hid hR
  have HG:=Lib.hid hG
  have HS:=Lib.hid hS
  have HLN:=Lib.hid hlen
  have hFI:=Lib.hid (fun (p:Nat) (hp:p≤64) (x:Rat × Nat) (hx:x ∈ T) W hG=>(sfloor_ok x.1 x.2 p (numS x.1) (decS x.2) W hG (numS_list _) (decS_list _) (hm x hx).1 (hm x hx).2 hp).mono fun e w' h=>h.it)
  have hFA:=Lib.hid (fun (p:Nat) (hp:p≤64) (k:Nat) (x:Rat × Nat) (hx:x ∈ T) W hG=>(Iadd_ok (flS p (T.take k)) (flI x.1 x.2 p) (itS _) (itS _) W hG (itS_list _) (by
    have:=flS_fit (hm.take k) hp (by rw [List.length_take];omega) 0 (by decide)
    simpa using this) (itS_list _) (flI_fit (hm x hx).1 (hm x hx).2 hp)))
  have hFF:=Lib.hid (fun (p:Nat) (hp:p≤64) (k:Nat)=>(by
    have:=flS_fit (hm.take k) hp (by rw [List.length_take];omega) 0 (by decide)
    simpa using this:Fit (flS p (T.take k))))
  have hF1:=Lib.hid (fun (p:Nat) (hp:p≤64) (k:Nat) (hk:k≤12)=>flS_fit hm hp hl k hk)
  clear hc hG hS hR hRES hm h0 hlen
  go_enter Tryz.func33,Tryz.ntmps33
  go_wp2_with (refine wpList_spl rfl _ rfl HS.out rfl ?_)
  go_loopw [17] (fun i wr=>∃ j:Nat,j≤3∧i=.int .i64 j∧Hid (sgnL ([4,16,64].drop j) T=(rs,rc))∧Below w.heap.size w wr) (fun i _=>3 - (intOf i).toNat)
  case atStart=>exact ⟨0,by omega,rfl,HR0,bw0 _ _⟩
  case round =>
   clear HR0
   obtain ⟨j,hj,rfl,HJ,hB⟩:=hrel
   by_cases hlt:j < 3
   ·have hix:=fun W=>spl_index j hlt W
    have hp64:=plN_le hlt
    have hdr:=pl_drop hlt
    have hla:=pl_last hlt
    obtain ⟨p,hp⟩:∃ p,plN j=p:=⟨_,rfl⟩
    rw [hp] at hix hp64 hdr
    obtain ⟨ps,hps⟩:∃ ps,[4,16,64].drop (j+1)=ps:=⟨_,rfl⟩
    rw [hps] at hdr hla
    have HPS:=Lib.hid hps
    have HSL:Hid ((if 0 < flS p T then ((1:Int),(0:Int)) else if flS p T+(T.length:Int) < 0∨(flS p T+(T.length:Int)=0∧ps=[]) then (-1,0) else sgnL ps T)=(rs,rc)):=Lib.hid (by
     have h:=HJ.out
     rw [hdr] at h
     exact h)
    have HLA:=Lib.hid hla
    have hjI:(j:Int) < 3:=by omega
    have hj1:IntKind.i64.wrap ((j:Int)+1)=((j+1:Nat):Int):=IntWalk.i64_in _ (by omega)
    have hsv:(⟨#[48]⟩:ByteArray)=itS (flS p (T.take 0)):=itS_of (by rw [List.take_zero];show (⟨#[48]⟩:ByteArray).data.toList=Lib.itoa 0;decide +kernel)
    have HSV:=Lib.hid hsv
    clear hdr hla hp hps HJ hsv
    go_wp2_with fail
    obtain ⟨wo,rfl⟩:∃ wo:World,wo=wr:=⟨_,rfl⟩
    go_loopw [6,23] (fun s i wr=>∃ k:Nat,k≤T.length∧i=.int .i64 k∧s=.string (itS (flS p (T.take k)))∧Below w.heap.size w wr) (fun _ i _=>T.length - (intOf i).toNat)
    case atStart=>exact ⟨0,by omega,rfl,by rw [← HSV.out],hB⟩
    case round =>
     clear HSV
     obtain ⟨k,hk,rfl,rfl,hB2⟩:=hrel
     by_cases hkl:k < T.length
     ·obtain ⟨b,off,rfl,hcell⟩:=HC.out (fun h=>by have:=HLN.out;rw [h] at this;simp at this;omega)
      obtain ⟨d0,d1⟩:=(hcell k (by rw [HLN.out];exact hkl)).below (w':=wr) hB2
      rw [clsL_get hkl] at d0 d1
      have hx:=tq_mem hkl
      have H1:=Lib.hid (hFI.out p hp64 _ hx)
      have H2:=Lib.hid (hFA.out p hp64 k _ hx)
      have hst:flS p (T.take (k+1))=flS p (T.take k)+flI (tq T k).1 (tq T k).2 p:=by rw [termsTake hkl,flS_snoc]
      rw [← hst] at H2
      have H3:=Lib.hid (hFF.out p hp64 (k+1))
      generalize tq T k=x at *
      obtain ⟨c,m⟩:=x
      dsimp only at d0 d1 H1 H2
      obtain ⟨S1,hS1⟩:∃ S,flS p (T.take (k+1))=S:=⟨_,rfl⟩
      rw [hS1] at H2 H3
      have HS1:=Lib.hid hS1
      generalize flI c m p=Y at *
      generalize numS c=sc at *
      generalize decS m=sm at *
      generalize itS Y=sY at *
      generalize itS (flS p (T.take k))=sS at *
      have hkI:(k:Int) < (T.length:Int):=by omega
      have hk1:IntKind.i64.wrap ((k:Int)+1)=((k+1:Nat):Int):=IntWalk.i64_in _ (by omega)
      have hb1:Below w.heap.size w (wr.alloc (.cells #[.string sc,.string sm] 49)):=bw4 hB2 _
      have y0:BoxT2 49 (wr.alloc (.cells #[.string sc,.string sm] 49)) wr.heap.size (.string sc) (.string sm):=BoxT2.new rfl
      clear hcell hx hst hS1
      go_wp2_with fail
      generalize wr.alloc (.cells #[.string sc,.string sm] 49)=W1 at *
      refine (H1.out _ (HG.out.below hb1)).mono ?_
      rintro e w2 ⟨rfl,hB3⟩
      have hb2:=below_trans' hb1 hB3
      clear hB3 hb1 H1 y0
      go_wp2_with fail
      refine (H2.out _ (HG.out.below hb2)).mono ?_
      intro e w3 hr
      obtain ⟨rfl,hB4⟩:=(hr.1 H3.out).it
      have hb3:=below_trans' hb2 hB4
      clear hB4 hb2 H2 hr
      go_wp2_with fail
      go_roundw
      case rel=>exact ⟨k+1,by omega,by go_num,by rw [HS1.out],hb3⟩
      case measure=>simp [intOf];omega
     ·obtain rfl:k=T.length:=by omega
      have hF0:=hFF.out p hp64 T.length
      have hF2:=Lib.hid (hF1.out p hp64)
      have hFQ:=Lib.hid (fun W=>ICompare_ok (flS p (T.take T.length)) 0 (itS _) ⟨#[48]⟩ W (itS_list _) hF0 (by decide +kernel) (by unfold Fit;decide +kernel))
      have hSI:Hid (flS p (T.take T.length)=flS p T):=Lib.hid (by rw [List.take_length])
      rw [hSI.out] at hFQ
      obtain ⟨s0,hs0⟩:∃ s,itS (flS p (T.take T.length))=s:=⟨_,rfl⟩
      rw [hs0]
      rw [hSI.out] at hs0
      rw [hs0] at hFQ
      have HS0:=Lib.hid hs0
      obtain ⟨S,hSS⟩:∃ S,flS p T=S:=⟨_,rfl⟩
      rw [hSS] at hFQ HSL hF2 HS0
      have hcm:=cmp0 S
      obtain ⟨o,ho⟩:∃ o,Lib.compareInt S 0=o:=⟨_,rfl⟩
      rw [ho] at hFQ hcm
      clear hF0 hFI hFA hFF hF1 hSI hs0 hSS ho
      rcases hcm with ⟨hS1,rfl⟩|hcm
      ·have HE:Hid (((1:Int),(0:Int))=(rs,rc)):=Lib.hid (by have h:=HSL.out;rw [if_pos hS1] at h;exact h)
       clear HSL hS1
       go_wp2_with fail
       refine (hFQ.out _).mono ?_
       rintro e w4 ⟨rfl,hB5⟩
       have hb4:=below_trans' hB2 hB5
       clear hB5
       go_wp2_with fail
       refine bodyPost_ret (v:=.tuple #[.int .i64 1,.int .i64 0]) (by simp [results,Tryz.results33,go_sem]) rfl ?_
       have h:=HE.out
       cases h
       exact ⟨rfl,hb4⟩
      ·have hS1:¬ 0 < S:=by omega
       have ho1:¬ 0 < o:=by omega
       have HSL2:Hid ((if S+(T.length:Int) < 0∨(S+(T.length:Int)=0∧ps=[]) then (-1,0) else sgnL ps T)=(rs,rc)):=Lib.hid (by have h:=HSL.out;rw [if_neg hS1] at h;exact h)
       clear HSL hcm hS1
       go_wp2_with fail
       refine (hFQ.out _).mono ?_
       rintro e w4 ⟨rfl,hB5⟩
       have hb4:=below_trans' hB2 hB5
       clear hB5
       have HS00:Hid (s0=itS (S+((0:Nat):Int))):=Lib.hid (by rw [← HS0.out];simp)
       go_wp2_with fail
       go_loopw [6,45] (fun s i wq=>∃ k:Nat,k≤T.length∧i=.int .i64 k∧s=.string (itS (S+(k:Int)))∧Below w.heap.size w wq) (fun _ i _=>T.length - (intOf i).toNat)
       case atStart=>exact ⟨0,by omega,rfl,by rw [HS00.out],hb4⟩
       case round =>
        clear HS00 HS0 hFQ
        obtain ⟨k,hk,rfl,rfl,hB6⟩:=hrel
        by_cases hkl:k < T.length
        ·have H1:=Lib.hid (fun W hG=>Iadd_ok (S+(k:Int)) 1 (itS _) ⟨#[49]⟩ W hG (itS_list _) (hF2.out k (by omega)) (by decide +kernel) (by unfold Fit;decide +kernel))
         have e1:S+(k:Int)+1=S+((k+1:Nat):Int):=by omega
         rw [e1] at H1
         have H3:=Lib.hid (hF2.out (k+1) (by omega))
         have hkI:(k:Int) < (T.length:Int):=by omega
         have hk1:IntKind.i64.wrap ((k:Int)+1)=((k+1:Nat):Int):=IntWalk.i64_in _ (by omega)
         obtain ⟨S1,hS1⟩:∃ x,S+((k+1:Nat):Int)=x:=⟨_,rfl⟩
         rw [hS1] at H1 H3
         have HS1:=Lib.hid hS1
         generalize itS (S+(k:Int))=sS at *
         clear e1 hS1
         go_wp2_with fail
         refine (H1.out _ (HG.out.below hB6)).mono ?_
         intro e w5 hr
         obtain ⟨rfl,hB7⟩:=(hr.1 H3.out).it
         have hb7:=below_trans' hB6 hB7
         clear hB7 H1 hr
         go_wp2_with fail
         go_roundw
         case rel=>exact ⟨k+1,by omega,by go_num,by rw [HS1.out],hb7⟩
         case measure=>simp [intOf];omega
        ·obtain rfl:k=T.length:=by omega
         have HCM:=Lib.hid (fun W=>ICompare_ok (S+(T.length:Int)) 0 (itS _) ⟨#[48]⟩ W (itS_list _) (hF2.out T.length hl) (by decide +kernel) (by unfold Fit;decide +kernel))
         generalize itS (S+(T.length:Int))=sS at *
         obtain ⟨Z,hZ⟩:∃ Z,S+(T.length:Int)=Z:=⟨_,rfl⟩
         rw [hZ] at HCM HSL2
         have hcm:=cmp0 Z
         obtain ⟨o2,ho2⟩:∃ o,Lib.compareInt Z 0=o:=⟨_,rfl⟩
         rw [ho2] at HCM hcm
         clear hZ ho2 hF2
         rcases hcm with ⟨hz,rfl⟩|⟨hz,rfl⟩|⟨hz,rfl⟩
         ·have HN:Hid (sgnL ([4,16,64].drop (j+1)) T=(rs,rc)):=Lib.hid (by have h:=HSL2.out;rw [if_neg (by omega)] at h;rw [HPS.out];exact h)
          clear HSL2 hz
          go_wp2_with fail
          refine (HCM.out _).mono ?_
          rintro e w5 ⟨rfl,hB7⟩
          have hb7:=below_trans' hB6 hB7
          clear hB7 HCM
          go_wp2_with fail
          go_roundw
          case rel=>exact ⟨j+1,by omega,by go_num,HN,hb7⟩
          case measure=>simp [intOf];omega
         ·by_cases hj2:j=2
          ·have HN:Hid (((-1:Int),(0:Int))=(rs,rc)):=Lib.hid (by have h:=HSL2.out;rw [if_pos (.inr ⟨hz,HLA.out.2 hj2⟩)] at h;exact h)
           subst hj2
           clear HSL2 hz
           go_wp2_with fail
           refine (HCM.out _).mono ?_
           rintro e w5 ⟨rfl,hB7⟩
           have hb7:=below_trans' hB6 hB7
           clear hB7 HCM
           go_wp2_with fail
           refine bodyPost_ret (v:=.tuple #[.int .i64 (-1),.int .i64 0]) (by simp [results,Tryz.results33,go_sem]) rfl ?_
           have h:=HN.out
           cases h
           exact ⟨rfl,hb7⟩
          ·have HN:Hid (sgnL ([4,16,64].drop (j+1)) T=(rs,rc)):=Lib.hid (by
            have h:=HSL2.out
            rw [if_neg (fun h2=>h2.elim (fun h3=>by omega) (fun h3=>hj2 (HLA.out.1 h3.2)))] at h
            rw [HPS.out];exact h)
           have hj3:decide (((j+1:Nat):Int)=3)=false:=by simp;omega
           have hj3':¬ ((j+1:Nat):Int)=3:=by omega
           clear HSL2 hz
           go_wp2_with fail
           refine (HCM.out _).mono ?_
           rintro e w5 ⟨rfl,hB7⟩
           have hb7:=below_trans' hB6 hB7
           clear hB7 HCM
           go_wp2_with fail
           go_roundw
           case rel=>exact ⟨j+1,by omega,by go_num,HN,hb7⟩
           case measure=>simp [intOf];omega
         ·have HN:Hid (((-1:Int),(0:Int))=(rs,rc)):=Lib.hid (by have h:=HSL2.out;rw [if_pos (.inl hz)] at h;exact h)
          clear HSL2 hz
          go_wp2_with fail
          refine (HCM.out _).mono ?_
          rintro e w5 ⟨rfl,hB7⟩
          have hb7:=below_trans' hB6 hB7
          clear hB7 HCM
          go_wp2_with fail
          refine bodyPost_ret (v:=.tuple #[.int .i64 (-1),.int .i64 0]) (by simp [results,Tryz.results33,go_sem]) rfl ?_
          have h:=HN.out
          cases h
          exact ⟨rfl,hb7⟩
   ·obtain rfl:j=3:=by omega
    have HN:Hid (((0:Int),(4:Int))=(rs,rc)):=HJ
    clear HJ
    go_wp2_with fail
    refine bodyPost_ret (v:=.tuple #[.int .i64 0,.int .i64 4]) (by simp [results,Tryz.results33,go_sem]) rfl ?_
    have h:=HN.out
    cases h
    exact ⟨rfl,hB⟩
end Go.Proofs.YthihcjgmlbnapaaGreatDoor
namespace Go.Proofs.YthihcjgmlbnapaaGreatDoor
open Go.RowKit
def Erg (w:World):Prop:=∃ te pe,w.cell? ⟨4,0,none⟩=some (.iface te pe)
theorem Erg.below {w w':World} (h:Erg w) (hB:Below w.heap.size w w'):Erg w':=by
 obtain ⟨te,pe,h⟩:=h
 exact ⟨te,pe,keep hB h⟩
structure Wor (w:World):Prop where
 glo:Glo w
 pri:Pri w
 spl:SPl w
 erg:Erg w
theorem Wor.below {w w':World} (h:Wor w) (hB:Below w.heap.size w w'):Wor w':=⟨h.glo.below hB,h.pri.below hB,h.spl.below hB,h.erg.below hB⟩
theorem trod_ifaceD {P:Program} {w:World} {fuel:Nat} {t:TypeId} {cs:List Value} {n:String} {d:DataW Unit} {p:List MemPlace} {ms} (ht:P.underlying t=some (.interface ms))
  (h:DataW.trod (fun _=>()) P w 0 (fun _=>true) false fuel t cs=some (.iface n d,p)):∃ te pe,cs=[.iface te pe]:=by
 cases fuel with
 | zero=>simp [DataW.trod] at h
 | succ f =>
  unfold DataW.trod at h
  rw [ht] at h
  split at h<;>simp_all
theorem gErr4 : Tryz.prog.globalNamed "strconv.ErrRange" = some 4 := by kernel_rfl
theorem tErr4:(Tryz.prog.globals[4]?).map (·.type)=some 157:=by kernel_rfl
theorem gSpl4 : Tryz.prog.globalNamed "kingpost/surd.signPlaces" = some 1 := by kernel_rfl
theorem tSpl4:(Tryz.prog.globals[1]?).map (·.type)=some 143:=by kernel_rfl
theorem cSpl4:Tryz.prog.cellsOf 143=3:=by kernel_rfl
theorem cInt4:Tryz.prog.cellsOf 3=1:=by kernel_rfl
theorem uErr4:∃ ms,Tryz.prog.underlying 157=some (.interface ms):=⟨_,Tryz.underlying157⟩
theorem erg_of {W : World} {n : String} {d : DataW Unit} {rest : List (String × DataW Unit)} (h : laidMet Tryz.prog (("strconv.ErrRange", .iface n d) :: rest) W) : Erg W := by
 obtain ⟨ps,⟨g',t',cs,fuel,p,q,hg',ht',hvar,hd,_,_⟩,_⟩:=h
 obtain rfl:=Option.some.inj (gErr4.symm.trans hg')
 obtain rfl:=Option.some.inj (tErr4.symm.trans ht')
 obtain ⟨ms,hu⟩:=uErr4
 obtain ⟨te,pe,hc⟩:=trod_ifaceD hu hd
 refine ⟨te,pe,?_⟩
 have h2:=World.var?_cell gErr4 hvar 0
 rw [h2]
 have:cs=#[.iface te pe]:=by
  cases cs with|mk l=>simp at hc;rw [hc]
 rw [this];rfl
theorem laid_spl {H:Type}:(Rows.laid_kingpost_surd_signPlaces:DataW H)=Lib.tabData .i64 [4,16,64]:=rfl
theorem spl_of {W : World} {rest : List (String × DataW Unit)} (h : laidMet Tryz.prog (("kingpost/surd.signPlaces", Rows.laid_kingpost_surd_signPlaces) :: rest) W) : SPl W := by
 rw [laid_spl] at h
 have h1:=Lib.tabIs_of_head gSpl4 tSpl4 Tryz.underlying143 Tryz.underlying3 cInt4 cSpl4 h
 intro i hi
 have h2:=h1.cell gSpl4 i hi
 rw [h2]
 have:i=0∨i=1∨i=2:=by omega
 rcases this with rfl|rfl|rfl<;>rfl
theorem wor_of {W : World} {x1 x2 x4 x6 : String × DataW Unit} {rest : List (String × DataW Unit)} (hL : laidMet Tryz.prog (x1 :: x2 :: ("internal/strconv.uint64pow10", Rows.laid_internal_strconv_uint64pow10) :: x4 :: ("strconv.ErrRange", Rows.laid_strconv_ErrRange) :: x6 :: ("kingpost/root.primes", Rows.laid_kingpost_root_primes) :: ("kingpost/surd.signPlaces", Rows.laid_kingpost_surd_signPlaces) :: rest) W) (hsh : W.ShapedOpen Tryz.prog) : Wor W := by
 obtain ⟨h1,h2⟩:=glo3_of hL hsh
 have h4:=laidMet_tail3 (laidMet_tail3 (laidMet_tail3 (laidMet_tail3 hL)))
 have h7:=laidMet_tail3 (laidMet_tail3 (laidMet_tail3 h4))
 exact ⟨h1,h2,spl_of h7,erg_of h4⟩
end Go.Proofs.YthihcjgmlbnapaaGreatDoor
namespace Go.Proofs.YthihcjgmlbnapaaGreatDoor
open Go.RowKit Go.Shelf
end Go.Proofs.YthihcjgmlbnapaaGreatDoor
namespace Go.Proofs.YthihcjgmlbnapaaGreatDoor
open Go.RowKit Go.Shelf
end Go.Proofs.YthihcjgmlbnapaaGreatDoor
namespace Go.Proofs.YthihcjgmlbnapaaGreatDoor
open Go.RowKit Go.Shelf
theorem isTerms_one {w:World} {b:Nat} {x y:ByteArray} {t:TypeId} (h:BoxT2 t w b (.string x) (.string y)):IsTerms w (.slice (some ⟨b,0,none⟩) 1 1) [(x,y)] :=
 ⟨_,1,rfl,Nat.le_refl _,fun _=>⟨b,0,rfl,fun k hk=>by
  obtain rfl:k=0:=by simpa using hk
  exact ⟨h.c0,h.c1⟩⟩⟩
def IsQ (s:ByteArray) (q:Rat):Prop:=s.data.toList=ratText q∧Sz 90 q
theorem vList_ok (x y z:ByteArray) (w:World) :
  Calls Tryz.prog 90 #[.agg #[.string x,.string y,.string z]] w (RetB (.agg #[.string x,.string y,.string z]) w):=by
 go_enter Tryz.func90,Tryz.ntmps90
 go_wp2_with fail
 refine bodyPost_ret (v:=.agg #[.string x,.string y,.string z]) (by simp [results,Tryz.results90,go_sem]) rfl ?_
 exact ⟨rfl,qbl⟩
theorem spot_index (x y z:ByteArray) (W:World):(Instr.index 162 (.agg #[.string x,.string y,.string z]) (.int .i64 0)).run Tryz.prog W=.ok (.string x) W∧(Instr.index 162 (.agg #[.string x,.string y,.string z]) (.int .i64 1)).run Tryz.prog W=.ok (.string y) W∧(Instr.index 162 (.agg #[.string x,.string y,.string z]) (.int .i64 2)).run Tryz.prog W=.ok (.string z) W:=by
 have hu:=Tryz.underlying162
 have hs:=Tryz.sizeOf36
 have ha:=Tryz.isAgg36
 refine ⟨?_,?_,?_⟩<;>(unfold Instr.index;simp [go_sem,hu,hs,ha,asIntOf,part])
theorem vCheck_ok (x y z:ByteArray) (p q r:Rat) (w:World) (hG:Glo w) (hx:IsQ x p) (hy:IsQ y q) (hz:IsQ z r) :
  Calls Tryz.prog 44 #[.agg #[.string x,.string y,.string z]] w (RetB (.int .i64 0) w):=by
 have HX:=Lib.hid (fun W hG=>RCheck_ok x W hG hx.1 hx.2 (by decide))
 have HY:=Lib.hid (fun W hG=>RCheck_ok y W hG hy.1 hy.2 (by decide))
 have HZ:=Lib.hid (fun W hG=>RCheck_ok z W hG hz.1 hz.2 (by decide))
 have HV:=Lib.hid (fun W=>vList_ok x y z W)
 have hi0:=fun W=>(spot_index x y z W).1
 have hi1:=fun W=>(spot_index x y z W).2.1
 have hi2:=fun W=>(spot_index x y z W).2.2
 have HG:=Lib.hid hG
 clear hG hx hy hz
 go_enter Tryz.func44,Tryz.ntmps44
 go_wp2_with fail
 refine (HV.out _).mono ?_
 rintro e w1 ⟨rfl,hB1⟩
 have hb1:Below w.heap.size w w1:=below_trans' qbl hB1
 clear hB1
 go_wp2_with fail
 go_loopw [8] (fun i wr=>Below w.heap.size w wr∧(i=.int .i64 0∨i=.int .i64 1∨i=.int .i64 2∨i=.int .i64 3)) (fun i _=>3 - (intOf i).toNat)
 case atStart=>exact ⟨hb1,.inl rfl⟩
 case round =>
  obtain ⟨hB,rfl|rfl|rfl|rfl⟩:=hrel
  ·go_wp2_with fail
   refine (HX.out _ (HG.out.below hB)).mono ?_
   rintro e w2 ⟨rfl,hB2⟩
   have hb2:=below_trans' hB hB2
   go_wp2_with fail
   go_roundw
   case rel=>exact ⟨hb2,.inr (.inl rfl)⟩
   case measure=>simp [intOf]
  ·go_wp2_with fail
   refine (HY.out _ (HG.out.below hB)).mono ?_
   rintro e w2 ⟨rfl,hB2⟩
   have hb2:=below_trans' hB hB2
   go_wp2_with fail
   go_roundw
   case rel=>exact ⟨hb2,.inr (.inr (.inl rfl))⟩
   case measure=>simp [intOf]
  ·go_wp2_with fail
   refine (HZ.out _ (HG.out.below hB)).mono ?_
   rintro e w2 ⟨rfl,hB2⟩
   have hb2:=below_trans' hB hB2
   go_wp2_with fail
   go_roundw
   case rel=>exact ⟨hb2,.inr (.inr (.inr rfl))⟩
   case measure=>simp [intOf]
  ·go_wp2_with fail
   go_ret
   exact ⟨rfl,hB⟩
end Go.Proofs.YthihcjgmlbnapaaGreatDoor
namespace Go.Proofs.YthihcjgmlbnapaaGreatDoor
open Go.RowKit Go.Shelf
attribute [local go_sem] Oper.semAt_some
theorem RetN.b {q:Rat} {w:World} {e:Ending} {w':World} (h:RetN q w e w'):RetB (.tuple #[.string (numS q),.int .i64 0]) w e w':=by
 obtain ⟨r,hr,he,hB⟩:=h
 obtain rfl:=numS_of hr
 exact ⟨he,hB⟩
def BoxT3 (t:TypeId) (W:World) (b:Nat) (x y z:Value):Prop:=W.heap[b]?=some (.cells #[x,y,z] t (0,0))
theorem BoxT3.lt {t:TypeId} {W:World} {b:Nat} {x y z:Value} (h:BoxT3 t W b x y z):b < W.heap.size:=(Array.getElem?_eq_some_iff.1 h).1
theorem BoxT3.below {t:TypeId} {w w':World} {b:Nat} {x y z:Value} (h:BoxT3 t w b x y z) (hB:Below w.heap.size w w'):BoxT3 t w' b x y z:=(hB.block b h.lt).trans h
theorem BoxT3.c0 {t:TypeId} {W:World} {b:Nat} {x y z:Value} (h:BoxT3 t W b x y z):W.cell? ⟨b,0,none⟩=some x:=by simp only [World.cell?,show W.heap[b]?=_ from h];rfl
theorem BoxT3.c1 {t:TypeId} {W:World} {b:Nat} {x y z:Value} (h:BoxT3 t W b x y z):W.cell? ⟨b,1,none⟩=some y:=by simp only [World.cell?,show W.heap[b]?=_ from h];rfl
theorem BoxT3.c2 {t:TypeId} {W:World} {b:Nat} {x y z:Value} (h:BoxT3 t W b x y z):W.cell? ⟨b,2,none⟩=some z:=by simp only [World.cell?,show W.heap[b]?=_ from h];rfl
theorem BoxT3.new {t:TypeId} {X:World} {n:Nat} {x y z:Value} (h:X.heap.size=n):BoxT3 t (X.alloc (.cells #[x,y,z] t)) n x y z:=by subst h;exact World.alloc_heap_new _ _
theorem BoxT3.but {t:TypeId} {W W':World} {b c:Nat} {x y z:Value} (h:BoxT3 t W b x y z) (hs:SameBut c W W') (hne:b≠c):BoxT3 t W' b x y z:=(hs.block b hne).trans h
theorem wp_store3 {P:Program} {o:Oper} {a:Act} {Q:Exit→Act→World→Prop} {K:Act→World→Prop} (ty:TypeId) (p x:Operand) (ho:o.op=.store ty p x) {w:World} {b:Nat} {x0 y0 z0 x1 y1 z1:Value} (hA:BoxT3 ty w b x0 y0 z0)
  (hi:(P.info? ty).map (·.size)=some 3) (h1:x1.oneCell'=true) (h2:y1.oneCell'=true) (h3:z1.oneCell'=true) (hp:a.eval p=.pointer (some ⟨b,0,none⟩)) (hx:a.eval x=.agg #[x1,y1,z1]) (h:∀ W,SameBut b w W→BoxT3 ty W b x1 y1 z1→K (a.put o.dst undef) W):o.wp P a w K Q:=by
 have hrow:=run_storeVar_row (P:=P) w b ty ty #[x0,y0,z0] #[x1,y1,z1] hA hi rfl (by simp [h1,h2,h3])
 unfold Oper.wp execOp
 rw [ho]
 simp only [hp,hx,Sem.run_bind,Instr.storeAt,Instr.sureAddr,Sem.run_pure,Result.andThen_ok,hrow]
 exact h _ (setRow_sameBut _ _ _) (setRow_at hA)
theorem wpList_store3 {P:Program} {ops:Array Oper} {rest:List Oper} {o:Oper} {a:Act} {w:World} {Q:Exit→Act→World→Prop} (hgd:o.guard=none) (ty:TypeId) (p x:Operand) (ho:o.op=.store ty p x)
  {b:Nat} {x0 y0 z0 x1 y1 z1:Value} (hA:BoxT3 ty w b x0 y0 z0) (hi:(P.info? ty).map (·.size)=some 3) (h1:x1.oneCell'=true) (h2:y1.oneCell'=true) (h3:z1.oneCell'=true) (hp:a.eval p=.pointer (some ⟨b,0,none⟩)) (hx:a.eval x=.agg #[x1,y1,z1])
  (h:∀ W,SameBut b w W→BoxT3 ty W b x1 y1 z1→wpList P ops Q rest (a.put o.dst undef) W):wpList P ops Q (o::rest) a w :=
 wpList_plain hgd fun _ hK=>wp_store3 ty p x ho hA hi h1 h2 h3 hp hx fun W h2 h3=>hK _ _ (h W h2 h3)
end Go.Proofs.YthihcjgmlbnapaaGreatDoor
namespace Go.Proofs.YthihcjgmlbnapaaGreatDoor
open Go.RowKit Go.Shelf
def Ret3S (p q r:Rat) (w:World) (e:Ending) (w':World):Prop:=∃ x y z:ByteArray,x.data.toList=ratText p∧y.data.toList=ratText q∧z.data.toList=ratText r∧e=.returned (.tuple #[.agg #[.string x,.string y,.string z],.int .i64 0])∧Below w.heap.size w w'
theorem BoxT3.frz {t:TypeId} {W:World} {b:Nat} {x y z:Value} (h:BoxT3 t W b x y z) (k:Nat):W.frozen? ⟨b,k,none⟩=false:=by simp [World.frozen?,show W.heap[b]?=_ from h]
theorem BoxT3.set0 {t:TypeId} {W:World} {b:Nat} {x y z:Value} (h:BoxT3 t W b x y z) (v:Value):BoxT3 t (W.setCell ⟨b,0,none⟩ v) b v y z:=heap_setCell_at h
theorem BoxT3.set1 {t:TypeId} {W:World} {b:Nat} {x y z:Value} (h:BoxT3 t W b x y z) (v:Value):BoxT3 t (W.setCell ⟨b,1,none⟩ v) b x v z:=heap_setCell_at h
theorem BoxT3.set2 {t:TypeId} {W:World} {b:Nat} {x y z:Value} (h:BoxT3 t W b x y z) (v:Value):BoxT3 t (W.setCell ⟨b,2,none⟩ v) b x y v:=heap_setCell_at h
theorem Tryz.infoSpot:(Tryz.prog.info? 38).map (·.size)=some 3:=by kernel_rfl
theorem vBoth_ok (x y z x' y' z':ByteArray) (p q r p' q' r':Rat) (w:World) (hG:Glo w) (hx:IsQ x p) (hy:IsQ y q) (hz:IsQ z r) (hx':IsQ x' p') (hy':IsQ y' q') (hz':IsQ z' r') :
  Calls Tryz.prog 93 #[.agg #[.string x,.string y,.string z],.agg #[.string x',.string y',.string z']] w (RetB (.int .i64 0) w):=by
 have H1:=Lib.hid (fun W hG=>vCheck_ok x y z p q r W hG hx hy hz)
 have H2:=Lib.hid (fun W hG=>vCheck_ok x' y' z' p' q' r' W hG hx' hy' hz')
 have HG:=Lib.hid hG
 clear hG hx hy hz hx' hy' hz'
 go_enter Tryz.func93,Tryz.ntmps93
 go_wp2_with fail
 have hb0:Below w.heap.size w ((w.alloc (.cells #[.string x,.string y,.string z] 38)).alloc (.cells #[.string x',.string y',.string z'] 38)):=qbl
 have x0:BoxT3 38 ((w.alloc (.cells #[.string x,.string y,.string z] 38)).alloc (.cells #[.string x',.string y',.string z'] 38)) (w.heap.size+1) (.string x') (.string y') (.string z'):=BoxT3.new (by simp)
 generalize (w.alloc (.cells #[.string x,.string y,.string z] 38)).alloc (.cells #[.string x',.string y',.string z'] 38)=W0 at *
 refine (H1.out _ (HG.out.below hb0)).mono ?_
 rintro e w1 ⟨rfl,hB1⟩
 have hb1:=below_trans' hb0 hB1
 replace x0:=BoxT3.below x0 hB1
 clear hB1 hb0 H1
 have c0:=x0.c0
 have c1:=x0.c1
 have c2:=x0.c2
 go_wp2_with fail
 refine (H2.out _ (HG.out.below hb1)).mono ?_
 rintro e w2 ⟨rfl,hB2⟩
 have hb2:=below_trans' hb1 hB2
 clear hB2 hb1 H2
 go_wp2_with fail
 go_ret
 exact ⟨rfl,hb2⟩
theorem vOf_ok (x y z:ByteArray) (w:World):Calls Tryz.prog 151 #[.agg #[.string x,.string y,.string z]] w (RetB (.agg #[.string x,.string y,.string z]) w):=by
 go_enter Tryz.func151,Tryz.ntmps151
 go_wp2_with fail
 refine bodyPost_ret (v:=.agg #[.string x,.string y,.string z]) (by simp [results,Tryz.results151,go_sem]) rfl ?_
 exact ⟨rfl,qbl⟩
theorem vWith_ok (F:Nat) (x y z x' y' z':ByteArray) (p q r:Rat) (w:World) (hG:Glo w)
  (hE:∀ args w,(callFunc F args).run Tryz.prog w=.ok (.enter F args) w)
  (h1:∀ W,Glo W→Calls Tryz.prog F #[.string x,.string x'] W (RetN p W)) (h2:∀ W,Glo W→Calls Tryz.prog F #[.string y,.string y'] W (RetN q W)) (h3:∀ W,Glo W→Calls Tryz.prog F #[.string z,.string z'] W (RetN r W)) :
  Calls Tryz.prog 94 #[.agg #[.string x,.string y,.string z],.agg #[.string x',.string y',.string z'],.func (.func F) #[] #[]] w (Ret3S p q r w):=by
 have HL:=Lib.hid (fun a b c W=>vList_ok a b c W)
 have HO:=Lib.hid (fun a b c W=>vOf_ok a b c W)
 have H1:=Lib.hid h1
 have H2:=Lib.hid h2
 have H3:=Lib.hid h3
 have HG:=Lib.hid hG
 have hi0:=fun W=>(spot_index x y z W).1
 have hi1:=fun W=>(spot_index x y z W).2.1
 have hi2:=fun W=>(spot_index x y z W).2.2
 clear hG h1 h2 h3
 go_enter Tryz.func94,Tryz.ntmps94
 go_wp2_with fail
 have hb0:Below w.heap.size w ((((w.alloc (.cells #[.string x,.string y,.string z] 163)).alloc (.cells #[.string x',.string y',.string z'] 163)).alloc (.cells #[.string ⟨#[]⟩,.string ⟨#[]⟩,.string ⟨#[]⟩] 38)).alloc (.cells #[.string ⟨#[]⟩,.string ⟨#[]⟩,.string ⟨#[]⟩] 162)):=qbl
 have a0:BoxT3 163 ((((w.alloc (.cells #[.string x,.string y,.string z] 163)).alloc (.cells #[.string x',.string y',.string z'] 163)).alloc (.cells #[.string ⟨#[]⟩,.string ⟨#[]⟩,.string ⟨#[]⟩] 38)).alloc (.cells #[.string ⟨#[]⟩,.string ⟨#[]⟩,.string ⟨#[]⟩] 162)) w.heap.size (.string x) (.string y) (.string z):=(BoxT3.new rfl).below (bw4 (bw4 (bw4 (bw0 _ _) _) _) _)
 have a2:BoxT3 38 ((((w.alloc (.cells #[.string x,.string y,.string z] 163)).alloc (.cells #[.string x',.string y',.string z'] 163)).alloc (.cells #[.string ⟨#[]⟩,.string ⟨#[]⟩,.string ⟨#[]⟩] 38)).alloc (.cells #[.string ⟨#[]⟩,.string ⟨#[]⟩,.string ⟨#[]⟩] 162)) (w.heap.size+2) (.string ⟨#[]⟩) (.string ⟨#[]⟩) (.string ⟨#[]⟩):=(BoxT3.new (by simp)).below (bw4 (bw0 _ _) _)
 have a3:BoxT3 162 ((((w.alloc (.cells #[.string x,.string y,.string z] 163)).alloc (.cells #[.string x',.string y',.string z'] 163)).alloc (.cells #[.string ⟨#[]⟩,.string ⟨#[]⟩,.string ⟨#[]⟩] 38)).alloc (.cells #[.string ⟨#[]⟩,.string ⟨#[]⟩,.string ⟨#[]⟩] 162)) (w.heap.size+3) (.string ⟨#[]⟩) (.string ⟨#[]⟩) (.string ⟨#[]⟩):=BoxT3.new (by simp)
 generalize ((((w.alloc (.cells #[.string x,.string y,.string z] 163)).alloc (.cells #[.string x',.string y',.string z'] 163)).alloc (.cells #[.string ⟨#[]⟩,.string ⟨#[]⟩,.string ⟨#[]⟩] 38)).alloc (.cells #[.string ⟨#[]⟩,.string ⟨#[]⟩,.string ⟨#[]⟩] 162))=W0 at *
 refine (HL.out x' y' z' W0).mono ?_
 rintro e w1 ⟨rfl,hB1⟩
 have hb1:=below_trans' hb0 hB1
 replace a0:=a0.below hB1
 replace a2:=a2.below hB1
 replace a3:=a3.below hB1
 clear hB1 hb0
 have c0:=(a0.below (bw4 (bw0 _ _) (.cells #[.string x',.string y',.string z'] 162))).c0
 have c1:=(a0.below (bw4 (bw0 _ _) (.cells #[.string x',.string y',.string z'] 162))).c1
 have c2:=(a0.below (bw4 (bw0 _ _) (.cells #[.string x',.string y',.string z'] 162))).c2
 go_wp2_with fail
 have hb2:Below w.heap.size w (w1.alloc (.cells #[.string x',.string y',.string z'] 162)):=bw4 hb1 _
 have a4:BoxT3 162 (w1.alloc (.cells #[.string x',.string y',.string z'] 162)) w1.heap.size (.string x') (.string y') (.string z'):=BoxT3.new rfl
 have z1:w.heap.size+3 < w1.heap.size:=a3.lt
 replace a2:=a2.below (bw4 (bw0 _ _) (.cells #[.string x',.string y',.string z'] 162))
 replace a3:=a3.below (bw4 (bw0 _ _) (.cells #[.string x',.string y',.string z'] 162))
 clear a0 c0 c1 c2 hb1
 generalize w1.alloc (.cells #[.string x',.string y',.string z'] 162)=W1 at *
 generalize w1.heap.size=m1 at *
 refine (HL.out x y z W1).mono ?_
 rintro e w2 ⟨rfl,hB2⟩
 have hb3:=below_trans' hb2 hB2
 replace a2:=a2.below hB2
 replace a3:=a3.below hB2
 replace a4:=a4.below hB2
 clear hB2 hb2
 go_wp2_with fail
 go_loopw [18] (fun i wr=>Below w.heap.size w wr∧BoxT3 162 wr m1 (.string x') (.string y') (.string z')∧BoxT3 38 wr (w.heap.size+2) (.string ⟨#[]⟩) (.string ⟨#[]⟩) (.string ⟨#[]⟩)∧∃ a b c:ByteArray,BoxT3 162 wr (w.heap.size+3) (.string a) (.string b) (.string c)∧((i=.int .i64 0)∨(i=.int .i64 1∧Hid (a.data.toList=ratText p))∨(i=.int .i64 2∧Hid (a.data.toList=ratText p∧b.data.toList=ratText q))∨(i=.int .i64 3∧Hid (a.data.toList=ratText p∧b.data.toList=ratText q∧c.data.toList=ratText r)))) (fun i _=>3 - (intOf i).toNat)
 case atStart=>exact ⟨hb3,a4,a2,_,_,_,a3,.inl rfl⟩
 case round =>
  obtain ⟨hB,b4,b2,a,b,c,b3,hst⟩:=hrel
  have c0:=b4.c0
  have c1:=b4.c1
  have c2:=b4.c2
  rcases hst with rfl|⟨rfl,ha⟩|⟨rfl,ha⟩|⟨rfl,ha⟩
  ·go_wp2_with fail
   refine (H1.out _ (HG.out.below hB)).mono ?_
   rintro e w4 ⟨s,hs,rfl,hB4⟩
   have hb4:=below_trans' hB hB4
   replace b4:=b4.below hB4
   replace b3:=b3.below hB4
   replace b2:=b2.below hB4
   have d0:=b3.c0
   have fz:=b3.frz 0
   clear hB4 hB c0 c1 c2
   go_wp2_with fail
   go_roundw
   case rel=>exact ⟨hb4.setCell (by show w.heap.size≤w.heap.size+3;omega) _,b4.but (sameBut_setCell _ _ _ _) (by omega),b2.but (sameBut_setCell _ _ _ _) (by omega),_,_,_,b3.set0 _,Or.inr (.inl ⟨rfl,Lib.hid hs⟩)⟩
   case measure=>simp [intOf]
  ·go_wp2_with fail
   refine (H2.out _ (HG.out.below hB)).mono ?_
   rintro e w4 ⟨s,hs,rfl,hB4⟩
   have hb4:=below_trans' hB hB4
   replace b4:=b4.below hB4
   replace b3:=b3.below hB4
   replace b2:=b2.below hB4
   have d0:=b3.c1
   have fz:=b3.frz 1
   clear hB4 hB c0 c1 c2
   go_wp2_with fail
   go_roundw
   case rel=>exact ⟨hb4.setCell (by show w.heap.size≤w.heap.size+3;omega) _,b4.but (sameBut_setCell _ _ _ _) (by omega),b2.but (sameBut_setCell _ _ _ _) (by omega),_,_,_,b3.set1 _,Or.inr (.inr (.inl ⟨rfl,Lib.hid ⟨ha.out,hs⟩⟩))⟩
   case measure=>simp [intOf]
  ·go_wp2_with fail
   refine (H3.out _ (HG.out.below hB)).mono ?_
   rintro e w4 ⟨s,hs,rfl,hB4⟩
   have hb4:=below_trans' hB hB4
   replace b4:=b4.below hB4
   replace b3:=b3.below hB4
   replace b2:=b2.below hB4
   have d0:=b3.c2
   have fz:=b3.frz 2
   clear hB4 hB c0 c1 c2
   go_wp2_with fail
   go_roundw
   case rel=>exact ⟨hb4.setCell (by show w.heap.size≤w.heap.size+3;omega) _,b4.but (sameBut_setCell _ _ _ _) (by omega),b2.but (sameBut_setCell _ _ _ _) (by omega),_,_,_,b3.set2 _,Or.inr (.inr (.inr ⟨rfl,Lib.hid ⟨ha.out.1,ha.out.2,hs⟩⟩))⟩
   case measure=>simp [intOf]
  ·have e0:=b3.c0
   have e1:=b3.c1
   have e2:=b3.c2
   go_wp2_with fail
   refine (HO.out a b c _).mono ?_
   rintro e w4 ⟨rfl,hB4⟩
   have hb4:=below_trans' hB hB4
   replace b2:=b2.below hB4
   clear hB4 hB c0 c1 c2
   go_wp2_with (refine wpList_store3 rfl _ _ _ rfl b2 Tryz.infoSpot rfl rfl rfl rfl rfl ?_;intro Wz hS hx;have hbz:Below w.heap.size w Wz:=hS.below hb4 (by omega);have g0:=hx.c0;have g1:=hx.c1;have g2:=hx.c2;clear hS b2 hb4)
   refine bodyPost_ret (v:=.tuple #[.agg #[.string a,.string b,.string c],.int .i64 0]) (by simp [results,Tryz.results94,go_sem,g0,g1,g2]) rfl ?_
   exact ⟨a,b,c,ha.out.1,ha.out.2.1,ha.out.2.2,rfl,hbz⟩
end Go.Proofs.YthihcjgmlbnapaaGreatDoor
namespace Go.Proofs.YthihcjgmlbnapaaGreatDoor
open Go.RowKit Go.Shelf
def IsS (s:ByteArray) (q:Rat):Prop:=s.data.toList=ratText q∧Small q
theorem IsS.q {s:ByteArray} {q:Rat} (h:IsS s q):IsQ s q:=⟨h.1,Nat.lt_of_lt_of_le h.2.1 (pow10_le (a:=8) (b:=90) (by decide)),Nat.lt_of_lt_of_le h.2.2 (pow10_le (a:=8) (b:=90) (by decide))⟩
end Go.Proofs.YthihcjgmlbnapaaGreatDoor
namespace Go.Proofs.YthihcjgmlbnapaaGreatDoor
open Go.RowKit Go.Shelf
def IsR (k:Nat) (s:ByteArray) (q:Rat):Prop:=s.data.toList=ratText q∧Sz k q
theorem IsR.q {k:Nat} {s:ByteArray} {q:Rat} (h:IsR k s q) (hk:k≤90):IsQ s q:=⟨h.1,h.2.mono hk⟩
end Go.Proofs.YthihcjgmlbnapaaGreatDoor
namespace Go.Proofs.YthihcjgmlbnapaaGreatDoor
open Go.RowKit Go.Shelf
end Go.Proofs.YthihcjgmlbnapaaGreatDoor
namespace Go.Proofs.YthihcjgmlbnapaaGreatDoor
open Go.RowKit
theorem Sz.sub {a b:Nat} {p q:Rat} (hp:Sz a p) (hq:Sz b q):Sz (a+b+1) (p - q):=by
 have:=Sz.add hp hq.neg'
 rwa [← Rat.sub_eq_add_neg] at this
theorem RSub_ok {a b:Nat} {p q:Rat} (s t:ByteArray) (w:World) (hG:Glo w) (hs:s.data.toList=ratText p) (hp:Sz a p) (ht:t.data.toList=ratText q) (hq:Sz b q) (hab:a+b+1≤300) :
  Calls Tryz.prog 36 #[.string s,.string t] w (RetN (p - q) w):=by
 by_cases hsm:Small p∧Small q
 ·exact Sub_small s t w hG hs hsm.1 ht hsm.2
 ·have f1:=fit_mul (x:=p.num) (y:=(q.den:Int)) hp.1 (by rw [den_nat];exact hq.2) (show a+b≤300 by omega)
  have f2:=fit_mul (x:=q.num) (y:=(p.den:Int)) hq.1 (by rw [den_nat];exact hp.2) (show b+a≤300 by omega)
  have f3:Fit (p.num * q.den - q.num * p.den):=fit_of_lt (pow300 (by have:=sum_lt hp hq.neg';rwa [Rat.neg_num,Rat.neg_den,Int.neg_mul,← Int.sub_eq_add_neg] at this) hab)
  have f4:Fit ((p.den:Int) * q.den):=fit_of_lt (pow300 (dens_lt hp hq) (by omega))
  have hC:CombOk 78 (p.num * q.den - q.num * p.den) (p.num * q.den) (q.num * p.den):=fun s t w hG h1 h2=>(Isub_ok _ _ s t w hG h1 f1 h2 f2).mono fun e w' h=>h.1 f3
  have HQ:=Lib.hid (fun W=>quick_no 75 s t W hs ht hp (show a≤300 by omega) hq (show b≤300 by omega) hsm)
  have HB:=Lib.hid (fun (bx:Nat) (W:World) (hG:Glo W) (hbx:W.cell? ⟨bx,0,none⟩=some (.func (.func 78) #[] #[]))=>both_cap (r:=p - q) 138 bx _ s t W hG hbx (fun W hG=>read_any s W hG hs hp (by omega)) (fun W hG=>read_any t W hG ht hq (by omega)) (enters_of Tryz.func138 (by kernel_rfl) rfl)
   (fun x y u v W hG hb h1 h2 h3 h4=>by rw [← rat_sub];exact combL_ok 78 bx x y u v W hG hb (enters_of Tryz.func78 (by kernel_rfl) rfl) h1 h2 h3 h4 (hp.fn (by omega)) (hp.fd (by omega)) (hq.fn (by omega)) (hq.fd (by omega)) f1 f2 f3 f4 p.den_pos q.den_pos hC))
  have HG:=Lib.hid hG
  clear hs ht hG hC f1 f2 f3 f4 hp hq
  go_enter Tryz.func36,Tryz.ntmps36
  go_wp2_with fail
  refine (HQ.out _).mono ?_
  rintro e w1 ⟨rfl,hB1⟩
  go_wp2_with fail
  refine (combined_any _ _).mono ?_
  rintro e w2 ⟨rfl,rfl⟩
  go_wp2_with fail
  refine (HB.out _ _ (HG.out.below qbl) (by simp [go_sem])).mono ?_
  rintro e w3 ⟨r,hr,rfl,hB3⟩
  have HR:=Lib.hid hr
  have hb3:Below w.heap.size w w3:=qbl
  clear hr hB3
  go_wp2_with fail
  go_ret2
  exact ⟨r,HR.out,rfl,hb3⟩
end Go.Proofs.YthihcjgmlbnapaaGreatDoor
namespace Go.Proofs.YthihcjgmlbnapaaGreatDoor
open Go.RowKit Go.Shelf
attribute [local go_sem] Oper.semAt_some
def IsN (k:Nat) (s:ByteArray) (q:Rat):Prop:=s.data.toList=ratText q∧Sz k q
theorem IsN.q {k:Nat} {s:ByteArray} {q:Rat} (h:IsN k s q) (hk:k≤90):IsQ s q:=⟨h.1,h.2.mono hk⟩
theorem vSubW_ok (x y z x' y' z':ByteArray) (p q r p' q' r':Rat) (w:World) (hG:Glo w) (hx:IsN 30 x p) (hy:IsN 30 y q) (hz:IsN 30 z r) (hx':IsN 30 x' p') (hy':IsN 30 y' q') (hz':IsN 30 z' r') :
  Calls Tryz.prog 50 #[.agg #[.string x,.string y,.string z],.agg #[.string x',.string y',.string z']] w (Ret3S (p - p') (q - q') (r - r') w):=by
 have H1:=Lib.hid (fun W hG=>vBoth_ok x y z x' y' z' p q r p' q' r' W hG (hx.q (by decide)) (hy.q (by decide)) (hz.q (by decide)) (hx'.q (by decide)) (hy'.q (by decide)) (hz'.q (by decide)))
 have H2:=Lib.hid (fun W hG=>vWith_ok 36 x y z x' y' z' (p - p') (q - q') (r - r') W hG (enters_of Tryz.func36 (by kernel_rfl) rfl) (fun W hG=>RSub_ok (a:=30) (b:=30) x x' W hG hx.1 hx.2 hx'.1 hx'.2 (by decide)) (fun W hG=>RSub_ok (a:=30) (b:=30) y y' W hG hy.1 hy.2 hy'.1 hy'.2 (by decide)) (fun W hG=>RSub_ok (a:=30) (b:=30) z z' W hG hz.1 hz.2 hz'.1 hz'.2 (by decide)))
 have HG:=Lib.hid hG
 generalize p - p'=P at *
 generalize q - q'=Q at *
 generalize r - r'=R at *
 clear hG hx hy hz hx' hy' hz'
 go_enter Tryz.func50,Tryz.ntmps50
 go_wp2_with fail
 have hb0:Below w.heap.size w (((w.alloc (.cells #[.string x,.string y,.string z] 38)).alloc (.cells #[.string x',.string y',.string z'] 38)).alloc (.cells #[.string ⟨#[]⟩,.string ⟨#[]⟩,.string ⟨#[]⟩] 38)):=qbl
 have x0:BoxT3 38 (((w.alloc (.cells #[.string x,.string y,.string z] 38)).alloc (.cells #[.string x',.string y',.string z'] 38)).alloc (.cells #[.string ⟨#[]⟩,.string ⟨#[]⟩,.string ⟨#[]⟩] 38)) w.heap.size (.string x) (.string y) (.string z):=(BoxT3.new rfl).below (bw4 (bw4 (bw0 _ _) _) _)
 have x1:BoxT3 38 (((w.alloc (.cells #[.string x,.string y,.string z] 38)).alloc (.cells #[.string x',.string y',.string z'] 38)).alloc (.cells #[.string ⟨#[]⟩,.string ⟨#[]⟩,.string ⟨#[]⟩] 38)) (w.heap.size+1) (.string x') (.string y') (.string z'):=(BoxT3.new (by simp)).below (bw4 (bw0 _ _) _)
 have x2:BoxT3 38 (((w.alloc (.cells #[.string x,.string y,.string z] 38)).alloc (.cells #[.string x',.string y',.string z'] 38)).alloc (.cells #[.string ⟨#[]⟩,.string ⟨#[]⟩,.string ⟨#[]⟩] 38)) (w.heap.size+2) (.string ⟨#[]⟩) (.string ⟨#[]⟩) (.string ⟨#[]⟩):=BoxT3.new (by simp)
 generalize ((w.alloc (.cells #[.string x,.string y,.string z] 38)).alloc (.cells #[.string x',.string y',.string z'] 38)).alloc (.cells #[.string ⟨#[]⟩,.string ⟨#[]⟩,.string ⟨#[]⟩] 38)=W0 at *
 refine (H1.out _ (HG.out.below hb0)).mono ?_
 rintro e w1 ⟨rfl,hB1⟩
 have hb1:=below_trans' hb0 hB1
 replace x0:=x0.below hB1
 replace x1:=x1.below hB1
 replace x2:=x2.below hB1
 clear hB1 hb0 H1
 have c0:=x0.c0
 have c1:=x0.c1
 have c2:=x0.c2
 have d0:=x1.c0
 have d1:=x1.c1
 have d2:=x1.c2
 go_wp2_with fail
 refine (H2.out _ (HG.out.below hb1)).mono ?_
 rintro e w2 ⟨a,b,c,ha,hb,hc,rfl,hB2⟩
 have hb2:=below_trans' hb1 hB2
 replace x2:=x2.below hB2
 have HA:=Lib.hid ha
 have HB:=Lib.hid hb
 have HC:=Lib.hid hc
 clear hB2 hb1 H2 ha hb hc c0 c1 c2 d0 d1 d2 x0 x1
 go_wp2_with (refine wpList_store3 rfl _ _ _ rfl x2 Tryz.infoSpot rfl rfl rfl rfl rfl ?_;intro Wz hS hx;have hbz:Below w.heap.size w Wz:=hS.below hb2 (by omega);have g0:=hx.c0;have g1:=hx.c1;have g2:=hx.c2;clear hS x2 hb2)
 refine bodyPost_ret (v:=.tuple #[.agg #[.string a,.string b,.string c],.int .i64 0]) (by simp [results,Tryz.results50,go_sem,g0,g1,g2]) rfl ?_
 exact ⟨a,b,c,HA.out,HB.out,HC.out,rfl,hbz⟩
def DotF (p q r:Rat):Prop:=AddF (p * p+q * q) (r * r) ((p * p+q * q).num * ((r * r).den:Int)+(r * r).num * ((p * p+q * q).den:Int))
theorem vDotW_ok (x y z:ByteArray) (p q r:Rat) (w:World) (hG:Glo w) (hx:IsN 61 x p) (hy:IsN 61 y q) (hz:IsN 61 z r) :
  Calls Tryz.prog 95 #[.agg #[.string x,.string y,.string z],.agg #[.string x,.string y,.string z]] w (RetT (NumD (DotF p q r) (p * p+q * q+r * r)) w):=by
 have h1:=hx.2.mul hx.2
 have h2:=hy.2.mul hy.2
 have h3:=hz.2.mul hz.2
 have h4:=h1.add h2
 unfold DotF
 have H1:=Lib.hid (fun W hG=>vWith_ok 57 x y z x y z (p * p) (q * q) (r * r) W hG (enters_of Tryz.func57 (by kernel_rfl) rfl) (fun W hG=>RMul_ok (a:=61) (b:=61) x x W hG hx.1 hx.2 hx.1 hx.2 (by decide)) (fun W hG=>RMul_ok (a:=61) (b:=61) y y W hG hy.1 hy.2 hy.1 hy.2 (by decide)) (fun W hG=>RMul_ok (a:=61) (b:=61) z z W hG hz.1 hz.2 hz.1 hz.2 (by decide)))
 have H2:=Lib.hid (fun (s t:ByteArray) W hG (hs:s.data.toList=ratText (p * p)) (ht:t.data.toList=ratText (q * q))=>RAdd_ok s t W hG hs h1 ht h2 (by decide))
 have H3:=Lib.hid (fun (s t:ByteArray) W hG (hs:s.data.toList=ratText (p * p+q * q)) (ht:t.data.toList=ratText (r * r))=>RAddD_ok s t W hG hs (h4.mono (by decide)) ht (h3.mono (by decide)))
 have HG:=Lib.hid hG
 generalize p * p+q * q=S at *
 generalize p * p=P at *
 generalize q * q=Q at *
 generalize r * r=R at *
 generalize AddF S R (S.num * (R.den:Int)+R.num * (S.den:Int))=F at *
 generalize S+R=T at *
 clear hG hx hy hz h1 h2 h3 h4
 go_enter Tryz.func95,Tryz.ntmps95
 go_wp2_with fail
 have hb0:Below w.heap.size w ((w.alloc (.cells #[.string x,.string y,.string z] 163)).alloc (.cells #[.string x,.string y,.string z] 163)):=qbl
 refine (H1.out _ (HG.out.below hb0)).mono ?_
 rintro e w2 ⟨a,b,c,ha,hb,hc,rfl,hB2⟩
 have hb2:=below_trans' hb0 hB2
 have HA:=Lib.hid ha
 have HB:=Lib.hid hb
 have HC:=Lib.hid hc
 clear hB2 hb0 H1 ha hb hc
 go_wp2_with fail
 have hb3:Below w.heap.size w (w2.alloc (.cells #[.string a,.string b,.string c] 38)):=bw4 hb2 _
 have x3:BoxT3 38 (w2.alloc (.cells #[.string a,.string b,.string c] 38)) w2.heap.size (.string a) (.string b) (.string c):=BoxT3.new rfl
 generalize w2.alloc (.cells #[.string a,.string b,.string c] 38)=W3 at *
 refine (H2.out a b W3 (HG.out.below hb3) HA.out HB.out).mono ?_
 rintro e w4 ⟨s,hs,rfl,hB4⟩
 have hb4:=below_trans' hb3 hB4
 have c2:=(x3.below hB4).c2
 have HS:=Lib.hid hs
 clear hB4 hb3 hb2 hs x3
 go_wp2_with fail
 refine (H3.out s c _ (HG.out.below hb4) HS.out HC.out).mono ?_
 rintro e w5 ⟨u,c,rfl,hu,hB5⟩
 have hb5:=below_trans' hb4 hB5
 clear hB5 hb4 c2
 go_wp2_with fail
 go_ret2
 exact ⟨u,c,rfl,hu,hb5⟩
theorem not_sz {k:Nat} {q:Rat} (h:¬ Sz k q):k < (Lib.decDigits q.num.natAbs).length∨k < (Lib.decDigits q.den).length:=by
 rcases Nat.lt_or_ge k (Lib.decDigits q.num.natAbs).length with h1|h1
 ·exact .inl h1
 ·rcases Nat.lt_or_ge k (Lib.decDigits q.den).length with h2|h2
  ·exact .inr h2
  ·exact absurd ⟨lenSz h1,lenSz h2⟩ h
theorem rootCheckL_ok (q:Rat) (u v:Value) (w:World) (hG:Glo w) (hu:IsStrs w u ([q].map numS)) (hv:IsStrs w v ([q].map numS)) (hq:Sz 300 q) (hn:¬ Sz 90 q) :
  Calls Tryz.prog 101 #[u,v] w (RetB (.int .i64 4) w):=by
 obtain ⟨a,n,cap,rfl⟩:∃ a n cap,u=.slice a n cap:=by obtain ⟨a,cap,h,_⟩:=hu;exact ⟨_,_,_,h⟩
 obtain ⟨a',n',cap',rfl⟩:∃ a n cap,v=.slice a n cap:=by obtain ⟨a,cap,h,_⟩:=hv;exact ⟨_,_,_,h⟩
 have hu':=hu.cells
 have hv':=hv.cells
 obtain ⟨rfl,hcu⟩:=hu'
 obtain ⟨rfl,hcv⟩:=hv'
 obtain ⟨b,off,rfl,hcell⟩:=hcu (by simp)
 have hd:=not_sz hn
 have ck0:w.cell? ⟨b,off+0,none⟩=some (.string (numS q)):=hcell 0 (by simp)
 rw [Nat.add_zero] at ck0
 have HG:=Lib.hid hG
 clear hu hv hcu hcv hG hn hcell
 go_enter Tryz.func101,Tryz.ntmps101
 go_wp2_with fail
 go_loopw [13] (fun i wr=>i=.int .i64 0∧wr=w) (fun i _=>0)
 case atStart=>exact ⟨rfl,rfl⟩
 case round =>
   obtain ⟨rfl,hwr⟩:=hrel
   subst hwr
   have hB:=bw0 wr.heap.size wr
   have HCK:=Lib.hid (fun W hG=>RCheck_ok (numS q) W hG (numS_list _) hq (by decide))
   have HOF:=Lib.hid (fun W hG=>rootOf1_ok (numS q) W hG (numS_list _) hq (by decide))
   generalize numS q=sq at *
   clear hq
   go_wp2_with fail
   refine (HCK.out _ (HG.out.below hB)).mono ?_
   rintro e w2 ⟨rfl,hB2⟩
   have hb2:=below_trans' hB hB2
   clear hB2
   go_wp2_with fail
   refine (HOF.out _ (HG.out.below hb2)).mono ?_
   rintro e w3 ⟨x,y,hx,hy,rfl,hB3⟩
   have hb3:=below_trans' hb2 hB3
   clear hB3 hb2 hB ck0
   have hR:PairAt (w3.alloc (.cells #[.string x,.string y] 176)).drew w3.heap.size x y∧Below wr.heap.size wr (w3.alloc (.cells #[.string x,.string y] 176)).drew:=⟨⟨by simp [go_sem],by simp [go_sem]⟩,qbl⟩
   have HTR:=Lib.hid (fun W=>trimPrefix_any x ⟨#[45]⟩ W (trimMinus hx))
   obtain ⟨dx,hdx⟩:∃ d,(Lib.decDigits q.num.natAbs).length=d:=⟨_,rfl⟩
   have HZL:=Lib.hid (fun (z:ByteArray) (hz:Hid (z.data.toList=Lib.decDigits q.num.natAbs))=>(by
    have h1:z.size=z.data.toList.length:=rfl
    rw [h1,hz.out,hdx]:z.size=dx))
   have hyl:y.size=(Lib.decDigits q.den).length:=by
    have h1:y.size=y.data.toList.length:=rfl
    rw [h1,hy]
   obtain ⟨M,m1,m2,m3,hM⟩:=@max2_any Tryz.prog .i64 (dx:Int) (y.size:Int)
   have HMX:=Lib.hid hM
   have hMb:(90:Int) < M:=by omega
   clear hd hdx hx hy m1 m2 m3 hM hb3 hyl
   go_wp2_with fail
   refine region_S (F:=[]) (R:=(fun w'=>PairAt w' w3.heap.size x y∧Below wr.heap.size wr w')) 9 #[false,false,false,false,false,false,false,false,false] (by kernel_rfl) (by kernel_rfl) (by kernel_rfl) (fun _ _ _ _ _ h=>h) (fun Q' hQ' hN=>?_)
   generalize (w3.alloc (.cells #[.string x,.string y] 176)).drew=wd at *
   refine tS 24 0 (fw:=5) (hy:=by intro wq hRq;obtain ⟨⟨c0,c1⟩,_⟩:=hRq;have hmx:=HMX.out;go_simp;(try with_reducible rfl)) ?_
   refine tS 25 1 (fw:=5) (hy:=by intro wq hRq;obtain ⟨⟨c0,c1⟩,_⟩:=hRq;have hmx:=HMX.out;go_simp;(try with_reducible rfl)) ?_
   refine tS 28 4 (fw:=5) (hy:=by intro wq hRq;obtain ⟨⟨c0,c1⟩,_⟩:=hRq;have hmx:=HMX.out;go_simp;(try with_reducible rfl)) ?_
   refine tS 29 5 (fw:=5) (hy:=by intro wq hRq;obtain ⟨⟨c0,c1⟩,_⟩:=hRq;have hmx:=HMX.out;go_simp;(try with_reducible rfl)) ?_
   refine tS 30 6 (fw:=5) (hy:=by intro wq hRq;obtain ⟨⟨c0,c1⟩,_⟩:=hRq;have hmx:=HMX.out;go_simp;(try with_reducible rfl)) ?_
   refine wpAnyS_ready (rs:=[2]) (by kernel_rfl) (by simp) ?_
   refine stepR (i:=2) rfl (by kernel_rfl) (fun K hK=>?_) (AllReadyS.nil)
   go_simp
   refine (HTR.out _).mono ?_
   rintro e wn ⟨z,hz,rfl,rfl⟩
   have hzl:=HZL.out z hz
   have hzi:(z.size:Int)=(dx:Int):=by omega
   refine hK.out _ _ hR ?_
   clear hK K
   (try simp only [Act.put,bw7,bw8,bw9])
   refine tS 27 3 (fw:=5) (hy:=by intro wq hRq;obtain ⟨⟨c0,c1⟩,_⟩:=hRq;have hmx:=HMX.out;go_simp;(try with_reducible rfl)) ?_
   refine tS 31 7 (fw:=5) (hy:=by intro wq hRq;obtain ⟨⟨c0,c1⟩,_⟩:=hRq;have hmx:=HMX.out;go_simp;(try with_reducible rfl)) ?_
   refine tS 32 8 (fw:=5) (hy:=by intro wq hRq;obtain ⟨⟨c0,c1⟩,_⟩:=hRq;have hmx:=HMX.out;go_simp;(try with_reducible rfl)) ?_
   refine wpAnyS_done (by kernel_rfl) ?_ _
   refine hN.out _ _ ?_
   have hb4:=hR.2
   clear hR HTR HZL HMX
   go_wp2_with fail
   go_ret
   exact ⟨rfl,hb4⟩
theorem Normal_lim (q:Rat) (w:World) (hG:Glo w) (hq:Sz 300 q) (hn:¬ Sz 90 q) :
  Calls Tryz.prog 56 #[.string (numS q)] w (RetB (.tuple #[.string ⟨#[]⟩,.string ⟨#[]⟩,.int .i64 4]) w):=by
 have hB:Below w.heap.size w ((w.alloc (.cells #[.string (numS q)] 36)).alloc (.cells #[.string (numS q)] 36)):=((bw0 _ w).alloc (Nat.le_refl _) _).alloc (by simp) _
 have J1:IsStrs ((w.alloc (.cells #[.string (numS q)] 36)).alloc (.cells #[.string (numS q)] 36)) (.slice (some ⟨w.heap.size,0,none⟩) 1 1) ([q].map numS):=(isStrs_lit1 w q _).below (bw4 (bw0 _ _) _)
 have J2:IsStrs ((w.alloc (.cells #[.string (numS q)] 36)).alloc (.cells #[.string (numS q)] 36)) (.slice (some ⟨w.heap.size+1,0,none⟩) 1 1) ([q].map numS):=by
  have h:=isStrs_lit1 (w.alloc (.cells #[.string (numS q)] 36)) q 36
  rw [World.size_alloc] at h;exact h
 have hck:Calls Tryz.prog 101 #[.slice (some ⟨w.heap.size,0,none⟩) 1 1,.slice (some ⟨w.heap.size+1,0,none⟩) 1 1] ((w.alloc (.cells #[.string (numS q)] 36)).alloc (.cells #[.string (numS q)] 36)) (fun e w'=>e=.returned (.int .i64 4)∧Below w.heap.size w w') :=
  (rootCheckL_ok q _ _ _ (hG.below hB) J1 J2 hq hn).mono fun e w' ⟨he,hb⟩=>⟨he,below_trans' hB hb⟩
 have HCK:=Lib.hid hck
 clear hG hq hn hB J1 J2 hck
 generalize numS q=s at *
 go_enter Tryz.func56,Tryz.ntmps56
 go_wp2_with fail
 refine HCK.out.mono ?_
 rintro e w1 ⟨rfl,hb1⟩
 clear HCK
 go_wp2_with fail
 go_ret3
 exact ⟨rfl,qbl⟩
theorem surdOne {S:Rat} {n:Nat} (h:SurdOk (oneL S n)):SurdIs (oneL S n) (oneT S n):=by
 unfold oneL oneT at *
 by_cases h0:S=0
 ·rw [if_pos h0,if_pos h0];exact SurdIs.nil
 ·rw [if_neg h0] at h ⊢
  rw [if_neg h0]
  obtain ⟨T,k⟩:=h
  have a:=k.ok 0 (by simp)
  have e1:S=(tq T 0).1:=ratText_injP ((numS_list S).symm.trans a.c)
  have e2:n=(tq T 0).2:=dec_inj ((decS_list n).symm.trans a.r)
  have hl:T.length=1:=k.same
  match T,hl with
  | [x],_ =>
   have:x=(S,n):=Prod.ext e1.symm e2.symm
   rw [← this];exact k
def LenP (p q r:Rat):Prop:=DotF p q r∧Sz 90 (p * p+q * q+r * r)∧SurdOk (oneL (normQ (p * p+q * q+r * r)).1 (normQ (p * p+q * q+r * r)).2)
def RetLe (P:Prop) (L:TTexts) (w:World) (e:Ending) (w':World):Prop:=∃ (u:Value) (c:Int) (L':TTexts),e=.returned (.tuple #[u,.int .i64 c])∧IsTerms w' u L'∧Hid ((c=0↔P)∧(c=0→L'=L))∧Below w.heap.size w w'
theorem sq_nn (p q r:Rat):0≤(p * p+q * q+r * r).num:=by
 have h:∀ x:Rat,0≤x * x:=fun x=>by
  rcases Rat.le_total (a:=0) (b:=x) with h|h
  ·exact Rat.mul_nonneg h h
  ·have h2:0≤-x:=by grind
   have:=Rat.mul_nonneg h2 h2
   rwa [show -x * -x=x * x by grind] at this
 exact Rat.num_nonneg.2 (Rat.add_nonneg (Rat.add_nonneg (h p) (h q)) (h r))
theorem vLengthW_ok (x y z:ByteArray) (p q r:Rat) (w:World) (hG:Glo w) (hP:Pri w) (hx:IsN 61 x p) (hy:IsN 61 y q) (hz:IsN 61 z r) :
  Calls Tryz.prog 51 #[.agg #[.string x,.string y,.string z]] w (RetLe (LenP p q r) (oneL (normQ (p * p+q * q+r * r)).1 (normQ (p * p+q * q+r * r)).2) w):=by
 have H1:=Lib.hid (fun W hG=>vCheck_ok x y z p q r W hG (hx.q (by decide)) (hy.q (by decide)) (hz.q (by decide)))
 have H2:=Lib.hid (fun W hG=>vDotW_ok x y z p q r W hG hx hy hz)
 have hnn:=sq_nn p q r
 unfold LenP
 generalize DotF p q r=F at *
 generalize p * p+q * q+r * r=D at *
 have H3:=Lib.hid (fun (h5:Sz 90 D)=>(show ∀ W,Glo W→Pri W→Calls Tryz.prog 56 #[.string (numS D)] W (RetB (.tuple #[.string (numS (normQ D).1),.string (decS (normQ D).2),.int .i64 0]) W) from fun W hG hP=>Normal_ok D W hG hP h5 hnn))
 have H3':=Lib.hid (fun (h5:¬ Sz 90 D) (h6:Sz 300 D)=>(fun W hG=>Normal_lim D W hG h6 h5))
 have HZ:=Lib.hid (fun (h5:Sz 90 D) (h0:¬ (normQ D).1=0)=>(by
  have hp:0 < D.num:=by
   by_cases h:0 < D.num
   ·exact h
   ·have e:D=0:=Rat.num_eq_zero.1 (by omega)
    rw [e,normQ_zero] at h0
    exact absurd rfl h0
  obtain ⟨h1,h2⟩:=normQ_sz hp h5
  refine fun k hk=>?_
  obtain rfl:k=0:=by simpa using hk
  refine ⟨?_,?_⟩
  ·have e:(numS (normQ D).1).size=(numS (normQ D).1).data.toList.length:=rfl
   have h3:=ratText_len h1 (by decide) (by decide)
   show (numS (normQ D).1).size≤1000
   rw [e,numS_list];omega
  ·have e:(decS (normQ D).2).size=(decS (normQ D).2).data.toList.length:=rfl
   have h3:=len_of_lt h2 (by decide)
   show (decS (normQ D).2).size≤1000
   rw [e,decS_list];omega:∀ k,k < [(numS (normQ D).1,decS (normQ D).2)].length→(tt [(numS (normQ D).1,decS (normQ D).2)] k).1.size≤1000∧(tt [(numS (normQ D).1,decS (normQ D).2)] k).2.size≤1000))
 have hne:((numS (normQ D).1).toList == [48])=decide ((normQ D).1=0):=by
  rw [Lib.toList_data,numS_list,text_eq0]
 have h1L:∀ h:¬ (normQ D).1=0,oneL (normQ D).1 (normQ D).2=[(numS (normQ D).1,decS (normQ D).2)]:=fun h=>by unfold oneL;rw [if_neg h]
 have h0L:∀ h:(normQ D).1=0,oneL (normQ D).1 (normQ D).2=[]:=fun h=>by unfold oneL;rw [if_pos h]
 have HG:=Lib.hid hG
 have HP:=Lib.hid hP
 have H1L:=Lib.hid h1L
 have H0L:=Lib.hid h0L
 generalize oneL (normQ D).1 (normQ D).2=OL at *
 generalize (normQ D).1=c1 at *
 generalize numS c1=C at *
 generalize decS (normQ D).2=N at *
 clear hG hP hx hy hz h1L h0L hnn
 go_enter Tryz.func51,Tryz.ntmps51
 go_wp2_with fail
 have hb0:Below w.heap.size w (w.alloc (.cells #[.string x,.string y,.string z] 38)):=qbl
 have x0:BoxT3 38 (w.alloc (.cells #[.string x,.string y,.string z] 38)) w.heap.size (.string x) (.string y) (.string z):=BoxT3.new rfl
 generalize w.alloc (.cells #[.string x,.string y,.string z] 38)=W0 at *
 refine (H1.out _ (HG.out.below hb0)).mono ?_
 rintro e w1 ⟨rfl,hB1⟩
 have hb1:=below_trans' hb0 hB1
 replace x0:=x0.below hB1
 have c0:=x0.c0
 have c1':=x0.c1
 have c2:=x0.c2
 clear hB1 hb0 H1 x0
 go_wp2_with fail
 refine (H2.out _ (HG.out.below hb1)).mono ?_
 rintro e w2 ⟨s,k,rfl,hs,hB2⟩
 have hb2:=below_trans' hb1 hB2
 clear hB2 hb1 H2 c0 c1' c2
 rcases hs.out with ⟨rfl,hs1,h300,hF⟩|⟨rfl,rfl,hF⟩
 ·obtain rfl:=numS_of hs1
  clear hs hs1
  by_cases h90:Sz 90 D
  ·replace H3:=Lib.hid (H3.out h90)
   replace HZ:=Lib.hid (HZ.out h90)
   have HPP:=Lib.hid (fun (h:SurdOk OL)=>(⟨hF,h90,h⟩:F∧Sz 90 D∧SurdOk OL))
   clear H3' h300 h90 hF
   generalize numS D=sD at *
   go_wp2_with fail
   refine (H3.out _ (HG.out.below hb2) (HP.out.below hb2)).mono ?_
   rintro e w3 ⟨rfl,hB3⟩
   have hb3:=below_trans' hb2 hB3
   clear hB3 hb2 H3
   by_cases hc0:c1=0
   ·have HO:=Lib.hid (H0L.out hc0)
    rw [decide_eq_true hc0] at hne
    clear H1L H0L HZ hc0
    go_wp2_with fail
    refine bodyPost_ret (v:=.tuple #[.slice none 0 0,.int .i64 0]) (by simp [results,Tryz.results51,go_sem]) rfl ?_
    exact ⟨_,0,[],rfl,isTerms_nil,Lib.hid ⟨⟨fun _=>HPP.out (by rw [HO.out];exact ⟨[],SurdIs.nil⟩),fun _=>rfl⟩,fun _=>HO.out.symm⟩,hb3⟩
   ·have HO:=Lib.hid (H1L.out hc0)
    have H4:=Lib.hid (fun u W hG hP hu=>sCheck_ok [(C,N)] u W hG hP hu (HZ.out hc0))
    rw [decide_eq_false hc0] at hne
    clear H1L H0L HZ hc0
    go_wp2_with fail
    have hb4:Below w.heap.size w (w3.alloc (.cells #[.string C,.string N] 49)):=bw4 hb3 _
    have y0:BoxT2 49 (w3.alloc (.cells #[.string C,.string N] 49)) w3.heap.size (.string C) (.string N):=BoxT2.new rfl
    generalize w3.alloc (.cells #[.string C,.string N] 49)=W4 at *
    have HI:=Lib.hid (isTerms_one y0)
    refine (H4.out _ W4 (HG.out.below hb4) (HP.out.below hb4) HI.out).mono ?_
    rintro e w5 ⟨k,rfl,hk,hB5⟩
    have hb5:=below_trans' hb4 hB5
    have HJ:=Lib.hid (HI.out.below hB5)
    clear hB5 hb4 H4 HI y0
    by_cases hk0:k=0
    ·have HOK:=Lib.hid (hk.out.1 hk0)
     subst hk0
     clear hk
     go_wp2_with fail
     refine bodyPost_ret (v:=.tuple #[.slice (some ⟨w3.heap.size,0,none⟩) 1 1,.int .i64 0]) (by simp [results,Tryz.results51,go_sem]) rfl ?_
     exact ⟨_,0,_,rfl,HJ.out,Lib.hid ⟨⟨fun _=>HPP.out (by rw [HO.out];exact HOK.out),fun _=>rfl⟩,fun _=>HO.out.symm⟩,hb5⟩
    ·have HNO:=Lib.hid (fun (h:SurdOk OL)=>hk0 (hk.out.2 (by rw [← HO.out];exact h)))
     clear hk
     go_wp2_with fail
     refine bodyPost_ret (v:=.tuple #[.slice none 0 0,.int .i64 k]) (by simp [results,Tryz.results51,go_sem]) rfl ?_
     exact ⟨_,k,[],rfl,isTerms_nil,Lib.hid ⟨⟨fun h=>absurd h hk0,fun h=>absurd h.2.2 HNO.out⟩,fun h=>absurd h hk0⟩,hb5⟩
  ·replace H3':=Lib.hid (H3'.out h90 h300)
   have HN9:=Lib.hid h90
   clear H3 h300 h90 hF HZ H1L H0L
   generalize numS D=sD at *
   go_wp2_with fail
   refine (H3'.out _ (HG.out.below hb2)).mono ?_
   rintro e w3 ⟨rfl,hB3⟩
   have hb3:=below_trans' hb2 hB3
   clear hB3 hb2 H3'
   go_wp2_with fail
   refine bodyPost_ret (v:=.tuple #[.slice none 0 0,.int .i64 4]) (by simp [results,Tryz.results51,go_sem]) rfl ?_
   exact ⟨_,4,[],rfl,isTerms_nil,Lib.hid ⟨⟨fun h=>absurd h (by decide),fun h=>absurd h.2.1 HN9.out⟩,fun h=>absurd h (by decide)⟩,hb3⟩
 ·have HNF:=Lib.hid hF
  clear hs hF H3 H3' HZ H1L H0L
  go_wp2_with fail
  refine bodyPost_ret (v:=.tuple #[.slice none 0 0,.int .i64 4]) (by simp [results,Tryz.results51,go_sem]) rfl ?_
  exact ⟨_,4,[],rfl,isTerms_nil,Lib.hid ⟨⟨fun h=>absurd h (by decide),fun h=>absurd h.1 HNF.out⟩,fun h=>absurd h (by decide)⟩,hb2⟩
end Go.Proofs.YthihcjgmlbnapaaGreatDoor
namespace Go.Proofs.YthihcjgmlbnapaaGreatDoor
open Go.RowKit Go.Shelf
end Go.Proofs.YthihcjgmlbnapaaGreatDoor
namespace Go.Proofs.YthihcjgmlbnapaaGreatDoor
open Go.RowKit Go.Shelf
theorem indexNum_no (F:Nat) (L:List ByteArray) (v:Value) (w:World) (hv:IsStrs w v L) (hl:L.length≤100000)
  (hE:∀ args w,(callFunc F args).run Tryz.prog w=.ok (.enter F args) w)
  (hF:∀ k (h:k < L.length),∀ W,Below w.heap.size w W→Calls Tryz.prog F #[.string L[k]] W (RetB (.bool false) W)) :
  Calls Tryz.prog 91 #[v,.func (.func F) #[] #[]] w (RetB (.int .i64 (-1)) w):=by
 obtain ⟨a,cap,rfl,h⟩:=hv
 have HC:=Lib.hid h
 have HF:=Lib.hid hF
 clear h hF
 go_enter Tryz.func91,Tryz.ntmps91
 go_wp2_with fail
 go_loopw [8] (fun i wr=>∃ k:Nat,k≤L.length∧i=.int .i64 k∧Below w.heap.size w wr) (fun i _=>L.length - (intOf i).toNat)
 case atStart=>exact ⟨0,by omega,rfl,bw0 _ _⟩
 case round =>
  obtain ⟨k,hk,rfl,hB⟩:=hrel
  by_cases hlt:k < L.length
  ·obtain ⟨b,off,rfl,hc⟩:=HC.out (fun h=>by rw [h] at hlt;simp at hlt)
   have d0:=keep hB (hc k hlt)
   have hf:=Lib.hid (HF.out k hlt wr hB)
   clear hc
   go_wp2_with fail
   refine hf.out.mono ?_
   rintro e w1 ⟨rfl,hB1⟩
   have hB2:Below w.heap.size w w1:=below_trans' hB hB1
   clear hB1 d0
   go_wp2_with fail
   go_roundw
   case rel=>exact ⟨k+1,hlt,by go_num,hB2⟩
   case measure=>simp [intOf];omega
  ·have e:k=L.length:=by omega
   subst e
   go_wp2_with fail
   go_ret
   exact ⟨rfl,hB⟩
theorem containsNum_no (F:Nat) (L:List ByteArray) (v:Value) (w:World) (hv:IsStrs w v L) (hl:L.length≤100000)
  (hE:∀ args w,(callFunc F args).run Tryz.prog w=.ok (.enter F args) w)
  (hF:∀ k (h:k < L.length),∀ W,Below w.heap.size w W→Calls Tryz.prog F #[.string L[k]] W (RetB (.bool false) W)) :
  Calls Tryz.prog 45 #[v,.func (.func F) #[] #[]] w (RetB (.bool false) w):=by
 have HI:=Lib.hid (indexNum_no F L v w hv hl hE hF)
 clear hF hv
 go_enter Tryz.func45,Tryz.ntmps45
 go_wp2_with fail
 refine HI.out.mono ?_
 rintro e w1 ⟨rfl,hB⟩
 go_wp2_with fail
 go_ret
 exact ⟨rfl,hB⟩
end Go.Proofs.YthihcjgmlbnapaaGreatDoor
