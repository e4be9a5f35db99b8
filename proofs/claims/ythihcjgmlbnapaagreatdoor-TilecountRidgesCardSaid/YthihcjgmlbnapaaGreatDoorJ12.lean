/- Joined texts: GenPlain, WRatW, WPlusK, WPlusC, WGAdd, WMDigits, WMTerm, WSCheck, WMText, ReadPlain, WMSurd, RatioPlain. -/
import Derived.Test.YthihcjgmlbnapaaGreatDoorJ11
import Derived.Test.YthihcjgmlbnapaaGreatDoorJ09
import Derived.Test.YthihcjgmlbnapaaGreatDoorJ08
import Derived.Test.YthihcjgmlbnapaaGreatDoorJ04
import Derived.Deep.AppendLies
import Derived.Deep.MidRow
import Derived.Test.YthihcjgmlbnapaaGreatDoorJ07
set_option maxRecDepth 100000
set_option linter.unusedVariables false
set_option linter.unusedSimpArgs false
set_option maxHeartbeats 12800000
namespace Go.Proofs.YthihcjgmlbnapaaGreatDoor
open Go
def KOk (K:Terms):Prop:=∀ x ∈ K,Sz 300 x.1∧1≤x.2∧x.2 < 10 ^ 90
theorem tq_mem {K:Terms} {i:Nat} (h:i < K.length):tq K i ∈ K:=by
 have:tq K i=K[i]:=by simp [tq,h]
 rw [this];exact List.getElem_mem h
theorem KOk.set {K:Terms} (h:KOk K) {i:Nat} {y:Rat × Nat} (hy:Sz 300 y.1∧1≤y.2∧y.2 < 10 ^ 90):KOk (K.set i y):=by
 intro x hx
 rcases List.mem_or_eq_of_mem_set hx with h1|rfl
 ·exact h x h1
 ·exact hy
theorem KOk.append {K:Terms} (h:KOk K) {y:Rat × Nat} (hy:Sz 300 y.1∧1≤y.2∧y.2 < 10 ^ 90):KOk (K++[y]):=by
 intro x hx
 rcases List.mem_append.1 hx with h1|h1
 ·exact h x h1
 ·rw [List.mem_singleton.1 h1];exact hy
theorem valT_set:∀ {K:Terms} {i:Nat} (y:Rat × Nat) (P:Nat),i < K.length→valT (K.set i y) P=valT K P - (tq K i).1 * xr P (tq K i).2+y.1 * xr P y.2
 | [],i,y,P,h=>by simp at h
 | x::K,0,y,P,_=>by
  have:tq (x::K) 0=x:=rfl
  simp only [bw8,valT,this];grind
 | x::K,i+1,y,P,h=>by
  have e:tq (x::K) (i+1)=tq K i:=by simp [tq]
  have:=valT_set (K:=K) (i:=i) y P (by simpa using h)
  simp only [bw9,valT,this,e];grind
theorem ratioB_comm (a b:Nat):ratioB a b=ratioB b a:=by
 unfold ratioB
 rw [Nat.gcd_comm b a,Bool.and_comm]
theorem ratioQ_val {h l:Nat} (hb:ratioB h l=true) (hh:0 < h) (hl:0 < l):0 < ratioQ h l∧ratioQ h l * ratioQ h l * ((l:Nat):Rat)=((h:Nat):Rat):=by
 unfold ratioB isSqN at hb
 simp only [Bool.and_eq_true,decide_eq_true_eq] at hb
 obtain ⟨b1,b2⟩:=hb
 have hg:0 < Nat.gcd h l:=Nat.gcd_pos_of_pos_left _ hh
 have e1:h / Nat.gcd h l * Nat.gcd h l=h:=Nat.div_mul_cancel (Nat.gcd_dvd_left _ _)
 have e2:l / Nat.gcd h l * Nat.gcd h l=l:=Nat.div_mul_cancel (Nat.gcd_dvd_right _ _)
 unfold ratioQ
 generalize Nat.gcd h l=g at *
 generalize h / g=x at *
 generalize l / g=y at *
 generalize rootN x=a at *
 generalize rootN y=b at *
 have hx:0 < x:=by
  rcases Nat.eq_zero_or_pos x with h0|h0
  ·rw [h0] at e1;omega
  ·exact h0
 have hy:0 < y:=by
  rcases Nat.eq_zero_or_pos y with h0|h0
  ·rw [h0] at e2;omega
  ·exact h0
 have ha:0 < a:=by
  rcases Nat.eq_zero_or_pos a with h0|h0
  ·rw [h0] at b1;omega
  ·exact h0
 have hb':0 < b:=by
  rcases Nat.eq_zero_or_pos b with h0|h0
  ·rw [h0] at b2;omega
  ·exact h0
 have ka:(0:Rat) < (((a:Nat):Int):Rat):=Rat.natCast_pos.2 ha
 have kb:(0:Rat) < (((b:Nat):Int):Rat):=Rat.natCast_pos.2 hb'
 have kbn:(((b:Nat):Int):Rat)≠0:=fun h=>by rw [h] at kb;exact Rat.lt_irrefl kb
 refine ⟨by rw [Rat.div_def];exact Rat.mul_pos ka (Rat.inv_pos.2 kb),?_⟩
 have f1:((l:Nat):Rat)=(((b:Nat):Int):Rat) * (((b:Nat):Int):Rat) * ((g:Nat):Rat):=by
  rw [← e2,← b2,Rat.natCast_mul,Rat.natCast_mul];rfl
 have f2:((h:Nat):Rat)=(((a:Nat):Int):Rat) * (((a:Nat):Int):Rat) * ((g:Nat):Rat):=by
  rw [← e1,← b1,Rat.natCast_mul,Rat.natCast_mul];rfl
 rw [f1,f2]
 generalize (((a:Nat):Int):Rat)=A at *
 generalize (((b:Nat):Int):Rat)=B at *
 generalize ((g:Nat):Rat)=G at *
 clear f1 f2 b1 b2 e1 e2
 grind
theorem sz_ratio {m k:Nat} (hm:m < 10 ^ 90) (hk:k < 10 ^ 90) (hk0:0 < k):Sz 300 (ratioQ m k):=by
 unfold ratioQ
 have e:(((rootN (m / Nat.gcd m k):Nat):Int):Rat) / (((rootN (k / Nat.gcd m k):Nat):Int):Rat)=Rat.divInt (rootN (m / Nat.gcd m k):Nat) (rootN (k / Nat.gcd m k):Nat):=(Rat.divInt_eq_div _ _).symm
 rw [e]
 have key:∀ x,x < 10 ^ 90→rootN x < 10 ^ 90:=fun x hx=>by
  have h1:=(rootN_spec x).1
  rcases Nat.eq_zero_or_pos (rootN x) with h|h
  ·rw [h];exact Nat.pow_pos (by decide)
  ·exact Nat.lt_of_le_of_lt (Nat.le_trans (Nat.le_mul_of_pos_left _ h) h1) hx
 have k1:=key _ (Nat.lt_of_le_of_lt (Nat.div_le_self m (Nat.gcd m k)) hm)
 have k2:=key _ (Nat.lt_of_le_of_lt (Nat.div_le_self k (Nat.gcd m k)) hk)
 have hg0:0 < Nat.gcd m k:=Nat.gcd_pos_of_pos_right _ hk0
 have hd0:0 < k / Nat.gcd m k:=Nat.div_pos (Nat.le_of_dvd hk0 (Nat.gcd_dvd_right _ _)) hg0
 have hr0:0 < rootN (k / Nat.gcd m k):=le_rootN (x:=1) (by omega)
 exact (sz_divInt (k:=90) (by omega) (by rw [Int.natAbs_natCast];exact k1) (by rw [Int.natAbs_natCast];exact k2)).mono (by decide)
theorem near_low {K:Terms} {i:Nat} {x:Rat} {n:Nat} (hi:i < K.length) (hb:ratioB n (tq K i).2=true) (hn:0 < n) (hl:0 < (tq K i).2) :
  Near0 (fun P=>valT (K.set i ((tq K i).1+x * ratioQ n (tq K i).2,(tq K i).2)) P - (valT K P+x * xr P n)):=by
 obtain ⟨k0,k1⟩:=ratioQ_val hb hn hl
 have h:=xr_ratio k0 k1
 refine (h.mul (k:=-x) fun P=>rfl).add (Near0.zero (f:=fun _=>0) fun _=>rfl) fun P=>?_
 rw [valT_set _ P hi]
 grind
theorem near_high {K:Terms} {i:Nat} {x:Rat} {n:Nat} (hi:i < K.length) (hb:ratioB n (tq K i).2=true) (hn:0 < n) (hl:0 < (tq K i).2) :
  Near0 (fun P=>valT (K.set i (x+(tq K i).1 * ratioQ (tq K i).2 n,n)) P - (valT K P+x * xr P n)):=by
 rw [ratioB_comm] at hb
 obtain ⟨k0,k1⟩:=ratioQ_val hb hl hn
 have h:=xr_ratio k0 k1
 refine (h.mul (k:=-(tq K i).1) fun P=>rfl).add (Near0.zero (f:=fun _=>0) fun _=>rfl) fun P=>?_
 rw [valT_set _ P hi]
 grind
theorem valQ_snoc (Q:Raws) (x:Rat × Rat) (P:Nat):valQ (Q++[x]) P=valQ Q P+(nt x).1 * xr P (nt x).2:=by
 unfold valQ
 rw [List.map_append,valT_append]
 simp only [List.map_cons,List.map_nil,valT];grind
theorem valQ_append (Q R:Raws) (P:Nat):valQ (Q++R) P=valQ Q P+valQ R P:=by
 unfold valQ
 rw [List.map_append,valT_append]
theorem nt_zero {x:Rat × Rat} (h:nzB x=false) (P:Nat):(nt x).1 * xr P (nt x).2=0:=by
 unfold nzB at h
 simp only [Bool.and_eq_false_iff,decide_eq_false_iff_not,Decidable.not_not] at h
 unfold nt
 rcases h with h|h
 ·rw [h];grind
 ·rw [h,normQ_zero];grind
structure RawOk (Q:Raws):Prop where
 len:Q.length≤12
 sq:∀ k,k < Q.length→Sz 90 (rq Q k).1
 sr:∀ k,k < Q.length→Sz 45 (rq Q k).2
 r0:∀ k,k < Q.length→0≤(rq Q k).2.num
structure ResT (L:TTexts) (T:Terms):Prop where
 len:L.length≤12
 same:T.length=L.length
 c:∀ k,k < L.length→(tt L k).1.data.toList=ratText (tq T k).1
 r:∀ k,k < L.length→(tt L k).2.data.toList=Lib.decDigits (tq T k).2
 q0:∀ k,k < L.length→(tq T k).1≠0
 cz:∀ k,k < L.length→longD (tq T k).1≤60
 m1:∀ k,k < L.length→1≤(tq T k).2
 rn:∀ k,k < L.length→(Lib.decDigits (tq T k).2).length≤40
theorem ResT.terms {L:TTexts} {T:Terms} (h:ResT L T):TermsOk T:=by
 intro x hx
 obtain ⟨k,hk,rfl⟩:=List.getElem_of_mem hx
 have e:tq T k=T[k]:=by simp [tq,hk]
 rw [← e]
 have hk2:k < L.length:=by rw [← h.same];exact hk
 exact ⟨h.q0 k hk2,h.m1 k hk2⟩
end Go.Proofs.YthihcjgmlbnapaaGreatDoor
namespace Go.Proofs.YthihcjgmlbnapaaGreatDoor
open Go.RowKit
theorem Isub_ok (x y:Int) (s t:ByteArray) (w:World) (hG:Glo w) (hs:s.data.toList=Lib.itoa x) (hx:Fit x) (ht:t.data.toList=Lib.itoa y) (hy:Fit y) :
  Calls Tryz.prog 78 #[.string s,.string t] w (RetX (x - y) w):=by
 have hsz:=fit_size hs hx
 have htz:=fit_size ht hy
 have HS:=Lib.hid hs
 have HT:=Lib.hid ht
 have HG:=Lib.hid hG
 have HX:=Lib.hid hx
 have HY:=Lib.hid hy
 by_cases hb:s.size≤18∧t.size≤18
 ·obtain ⟨hb1,hb2⟩:=hb
  have h1:=lt18 hs hb1
  have h2:=lt18 ht hb2
  clear hs ht hG hx hy
  go_enter Tryz.func78,Tryz.ntmps78
  go_wp2_with fail
  refine (Iboth_ok x y s t _ HS.out HX.out HT.out HY.out).mono ?_
  rintro e w1 ⟨rfl,hB1⟩
  go_wp2_with fail
  refine (Ismall_ok x y s t _ HS.out hb1 HT.out hb2).mono ?_
  rintro e w2 ⟨rfl,hB2⟩
  go_wp2_with fail
  refine (itoa_any (x - y) (by omega) (by omega) _ (HG.out.below qbl)).mono ?_
  rintro e w3 ⟨r,hr,rfl,hB3⟩
  have HR:=Lib.hid hr
  clear hr
  go_wp2_with fail
  go_ret2
  exact RetI.x ⟨r,HR.out,rfl,qbl⟩ (fit18 (by omega))
 ·clear hs ht hG hx hy
  go_enter Tryz.func78,Tryz.ntmps78
  go_wp2_with fail
  refine (Iboth_ok x y s t _ HS.out HX.out HT.out HY.out).mono ?_
  rintro e w1 ⟨rfl,hB1⟩
  go_wp2_with fail
  refine (small_long s t _ (by omega)).mono ?_
  rintro e w2 ⟨rfl,hB2⟩
  have hb2:Below w.heap.size w w2:=qbl
  clear hB1 hB2
  go_wp2_with fail
  refine (iread_ok y t _ HT.out (by omega)).mono ?_
  rintro e w3 ⟨v2,rfl,hv2,hB3⟩
  have hb3:Below w.heap.size w w3:=below_trans' hb2 hB3
  obtain ⟨m2,a2,l2,c2,n2,rfl,i2,d2,z2,q2⟩:=hv2.parts
  have HV2:Hid (IsBig w3 (.agg #[.bool (!m2),.slice a2 l2.length c2]) (-y) ((t.size+8) / 9)):=Lib.hid ⟨!m2,_,l2,n2,rfl,i2,d2,by rw [sgnV_not,z2],q2⟩
  clear hv2 hB3 i2 d2 z2 q2
  go_wp2_with fail
  have hR:(w3.alloc (.cells #[.bool (!m2),.slice a2 l2.length c2] 207)).drew.cell? ⟨w3.heap.size,0,none⟩=some (.bool (!m2))∧(w3.alloc (.cells #[.bool (!m2),.slice a2 l2.length c2] 207)).drew.cell? ⟨w3.heap.size,1,none⟩=some (.slice a2 l2.length c2)∧Below w3.heap.size w3 (w3.alloc (.cells #[.bool (!m2),.slice a2 l2.length c2] 207)).drew:=⟨by simp [go_sem],by simp [go_sem],qbl⟩
  refine region_S (F:=[]) (R:=(fun w'=>w'.cell? ⟨w3.heap.size,0,none⟩=some (.bool (!m2))∧w'.cell? ⟨w3.heap.size,1,none⟩=some (.slice a2 l2.length c2)∧Below w3.heap.size w3 w')) 9 #[false,false,false,false,false,false,false,false,false] (by kernel_rfl) (by kernel_rfl) (by kernel_rfl) (fun _ _ _ _ _ h=>h) (fun Q' hQ' hN=>?_)
  generalize (w3.alloc (.cells #[.bool (!m2),.slice a2 l2.length c2] 207)).drew=wd at *
  refine tS 35 0 (hy:=by intro wq hRq;obtain ⟨c0,c1,_⟩:=hRq;go_simp;(try with_reducible rfl)) ?_
  refine tS 37 2 (hy:=by intro wq hRq;obtain ⟨c0,c1,_⟩:=hRq;go_simp;(try with_reducible rfl)) ?_
  refine wpAnyS_ready (rs:=[1]) (by kernel_rfl) (by simp) ?_
  refine stepR (i:=1) rfl (by kernel_rfl) (fun K hK=>?_) (AllReadyS.nil)
  go_simp
  refine (iread_ok x s _ HS.out (by omega)).mono ?_
  rintro e wn ⟨v1,rfl,hv1,hB'⟩
  have hR:wn.cell? ⟨w3.heap.size,0,none⟩=some (.bool (!m2))∧wn.cell? ⟨w3.heap.size,1,none⟩=some (.slice a2 l2.length c2)∧Below w3.heap.size w3 wn:=⟨keep hB' hR.1,keep hB' hR.2.1,below_trans' hR.2.2 hB'⟩
  have HV1:=Lib.hid hv1
  obtain ⟨m1,a1,l1,c1,n1,rfl,_⟩:=hv1.parts
  clear hv1 hB'
  refine hK.out _ _ hR ?_
  clear hK K
  (try simp only [Act.put,bw7,bw8,bw9])
  refine wpAnyS_ready (rs:=[3]) (by kernel_rfl) (by simp) ?_
  refine stepR (i:=3) rfl (by kernel_rfl) (fun K hK=>?_) (AllReadyS.nil)
  go_simp
  refine (addL_ok _ _ _ (HV1.out.below qbl) (HV2.out.below hR.2.2) (by omega) (by omega)).mono ?_
  rintro e wm ⟨v3,rfl,hv3,hB'⟩
  have hR:wm.cell? ⟨w3.heap.size,0,none⟩=some (.bool (!m2))∧wm.cell? ⟨w3.heap.size,1,none⟩=some (.slice a2 l2.length c2)∧Below w3.heap.size w3 wm:=⟨keep hB' hR.1,keep hB' hR.2.1,below_trans' hR.2.2 hB'⟩
  rw [← Int.sub_eq_add_neg] at hv3
  have HV3:=Lib.hid hv3
  obtain ⟨m3,a3,l3,c3,n3,rfl,_⟩:=hv3.parts
  clear hv3 hB' HV1
  refine hK.out _ _ hR ?_
  clear hK K
  (try simp only [Act.put,bw7,bw8,bw9])
  refine wpAnyS_ready (rs:=[4]) (by kernel_rfl) (by simp) ?_
  refine stepR (i:=4) rfl (by kernel_rfl) (fun K hK=>?_) (AllReadyS.nil)
  go_simp
  refine (result_ok _ _ (HG.out.below (below_trans' hb3 hR.2.2)) (HV3.out.below qbl) (by omega)).mono ?_
  intro e wk hr
  obtain ⟨r,c,rfl,hr,hB'⟩:=retX_val hr
  have HR:=Lib.hid (hr.trans (below_trans' hb3 hR.2.2))
  have hR:wk.cell? ⟨w3.heap.size,0,none⟩=some (.bool (!m2))∧wk.cell? ⟨w3.heap.size,1,none⟩=some (.slice a2 l2.length c2)∧Below w3.heap.size w3 wk:=⟨keep hB' hR.1,keep hB' hR.2.1,below_trans' hR.2.2 hB'⟩
  clear hr hB' HV3
  refine hK.out _ _ hR ?_
  clear hK K
  (try simp only [Act.put,bw7,bw8,bw9])
  refine tS 40 5 (hy:=by intro wq hRq;obtain ⟨c0,c1,_⟩:=hRq;go_simp;(try with_reducible rfl)) ?_
  refine tS 41 6 (hy:=by intro wq hRq;obtain ⟨c0,c1,_⟩:=hRq;go_simp;(try with_reducible rfl)) ?_
  refine tS 4 7 (hy:=by intro wq hRq;obtain ⟨c0,c1,_⟩:=hRq;go_simp;(try with_reducible rfl)) ?_
  refine tS 5 8 (hy:=by intro wq hRq;obtain ⟨c0,c1,_⟩:=hRq;go_simp;(try with_reducible rfl)) ?_
  refine wpAnyS_done (by kernel_rfl) ?_ _
  refine hN.out _ _ ?_
  clear hR
  go_wp2_with fail
  go_ret2
  exact HR.out
def RetT (Q:ByteArray→Int→Prop) (w:World) (e:Ending) (w':World):Prop:=∃ (v:ByteArray) (c:Int),e=.returned (.tuple #[.string v,.int .i64 c])∧Hid (Q v c)∧Below w.heap.size w w'
def NumL (q:Rat) (v:ByteArray) (c:Int):Prop:=(c=0∧v.data.toList=ratText q∧Sz 300 q)∨(v=⟨#[]⟩∧c=4)
theorem small_sz {q:Rat} (h:Small q):Sz 8 q:=⟨by have:=h.1;omega,by have:=h.2;omega⟩
theorem Sz.neg' {k:Nat} {q:Rat} (h:Sz k q):Sz k (-q):=⟨by rw [Rat.neg_num,Int.natAbs_neg];exact h.1,by rw [Rat.neg_den];exact h.2⟩
theorem rat_sub (p q:Rat):Rat.divInt (p.num * q.den - q.num * p.den) ((p.den:Int) * q.den)=p - q:=by rw [Rat.sub_def',← Rat.divInt_ofNat];simp
theorem RetN.nl {q:Rat} {w:World} {e:Ending} {w':World} (h:RetN q w e w') (hq:Sz 300 q):RetT (NumL q) w e w':=by
 obtain ⟨r,hr,he,hB⟩:=h
 exact ⟨r,0,he,Lib.hid (.inl ⟨rfl,hr,hq⟩),hB⟩
def NumD (P:Prop) (q:Rat) (v:ByteArray) (c:Int):Prop:=(c=0∧v.data.toList=ratText q∧Sz 300 q∧P)∨(v=⟨#[]⟩∧c=4∧¬ P)
theorem RetT.nl {P:Prop} {q:Rat} {w w':World} {e:Ending} (h:RetT (NumD P q) w e w'):RetT (NumL q) w e w':=by
 obtain ⟨v,c,he,h,hB⟩:=h
 exact ⟨v,c,he,Lib.hid (h.out.elim (fun h=>.inl ⟨h.1,h.2.1,h.2.2.1⟩) fun h=>.inr ⟨h.1,h.2.1⟩),hB⟩
theorem RetN.nd {P:Prop} {q:Rat} {w:World} {e:Ending} {w':World} (h:RetN q w e w') (hq:Sz 300 q) (hP:P):RetT (NumD P q) w e w':=by
 obtain ⟨r,hr,he,hB⟩:=h
 exact ⟨r,0,he,Lib.hid (.inl ⟨rfl,hr,hq,hP⟩),hB⟩
def AddF (p q:Rat) (z:Int):Prop:=(Fit (p.num * q.den)∧Fit (q.num * p.den))∧Fit z∧Fit ((p.den:Int) * q.den)
def MulF (p q:Rat):Prop:=Fit (p.num * q.num)∧Fit ((p.den:Int) * q.den)
theorem fit8 {a b:Int} (ha:a.natAbs < 10 ^ 8) (hb:b.natAbs < 10 ^ 8):(a * b).natAbs < 10 ^ 16:=by
 rw [Int.natAbs_mul];exact Nat.lt_of_lt_of_le (Nat.mul_lt_mul'' ha hb) (by decide)
theorem fit17 {z:Int} (h:z.natAbs < 10 ^ 17):Fit z:=fit18 (Nat.lt_of_lt_of_le h (by decide))
theorem fit16 {z:Int} (h:z.natAbs < 10 ^ 16):Fit z:=fit17 (Nat.lt_of_lt_of_le h (by decide))
theorem small_sum {p q:Rat} (hp:Small p) (hq:Small q) {z:Int} (hz:z.natAbs≤(p.num * q.den).natAbs+(q.num * p.den).natAbs):AddF p q z:=by
 have a:=small_sz hp
 have b:=small_sz hq
 have h1:=fit8 (b:=(q.den:Int)) a.1 b.2
 have h2:=fit8 (b:=(p.den:Int)) b.1 a.2
 exact ⟨⟨fit16 h1,fit16 h2⟩,fit17 (by omega),fit16 (fit8 (a:=(p.den:Int)) (b:=(q.den:Int)) a.2 b.2)⟩
theorem small_mulF {p q:Rat} (hp:Small p) (hq:Small q):MulF p q:=by
 have a:=small_sz hp
 have b:=small_sz hq
 exact ⟨fit16 (fit8 a.1 b.1),fit16 (fit8 (a:=(p.den:Int)) (b:=(q.den:Int)) a.2 b.2)⟩
def RetCW (x y:Int) (w:World) (e:Ending) (w':World):Prop:=∃ (u v:ByteArray) (c:Int),e=.returned (.tuple #[.string u,.string v,.int .i64 c])∧Hid (c=0→u.data.toList=Lib.itoa x∧v.data.toList=Lib.itoa y∧Fit x∧Fit y)∧(c=0∨c=4∧¬ (Fit x∧Fit y))∧Below w.heap.size w w'
theorem crossedW_ok (xn yn:Int) (xd yd:Nat) (a b c d:ByteArray) (w:World) (hG:Glo w) (ha:a.data.toList=Lib.itoa xn) (hb:b.data.toList=Lib.decDigits xd) (hc:c.data.toList=Lib.itoa yn) (hd:d.data.toList=Lib.decDigits yd)
  (fa:Fit xn) (fb:Fit (xd:Int)) (fc:Fit yn) (fd:Fit (yd:Int)) :
  Calls Tryz.prog 66 #[.agg #[.string a,.string b],.agg #[.string c,.string d]] w (RetCW (xn * yd) (yn * xd) w):=by
 rw [← itoa_natCast] at hb hd
 have HA:=Lib.hid ha
 have HB:=Lib.hid hb
 have HC:=Lib.hid hc
 have HD:=Lib.hid hd
 have HG:=Lib.hid hG
 clear hG ha hb hc hd
 go_enter Tryz.func66,Tryz.ntmps66
 go_wp2_with fail
 refine (Imul_ok xn yd a d _ (HG.out.below qbl) HA.out fa HD.out fd).mono ?_
 intro e w1 hrx
 by_cases f1:Fit (xn * yd)
 ·obtain ⟨r,hr,rfl,hB1⟩:=hrx.1 f1
  have HR:=Lib.hid hr
  clear hr hrx
  have c1:w1.cell? ⟨w.heap.size,1,none⟩=some (.string b):=keep hB1 (by simp [go_sem])
  have c2:w1.cell? ⟨w.heap.size+1,0,none⟩=some (.string c):=keep hB1 (by simp [go_sem])
  have z1:=lt_of_cell c1
  have z2:=lt_of_cell c2
  have hB1':Below w.heap.size w w1:=qbl
  go_wp2_with fail
  refine (Imul_ok yn xd c b _ (HG.out.below qbl) HC.out fc HB.out fb).mono ?_
  intro e w2 hrx
  by_cases f2:Fit (yn * xd)
  ·obtain ⟨s,hs,rfl,hB2⟩:=hrx.1 f2
   have HS:=Lib.hid hs
   clear hs hrx
   have hB2':Below w.heap.size w w2:=qbl
   go_wp2_with fail
   go_ret3
   exact ⟨r,s,0,rfl,Lib.hid (fun _=>⟨HR.out,HS.out,f1,f2⟩),.inl rfl,qbl⟩
  ·obtain ⟨rfl,hB2⟩:=hrx.2 f2
   clear hrx
   have hB2':Below w.heap.size w w2:=qbl
   go_wp2_with fail
   go_ret3
   exact ⟨_,_,4,rfl,Lib.hid (fun h=>by cases h),.inr ⟨rfl,fun h=>f2 h.2⟩,qbl⟩
 ·obtain ⟨rfl,hB1⟩:=hrx.2 f1
  clear hrx
  go_wp2_with fail
  go_ret3
  exact ⟨_,_,4,rfl,Lib.hid (fun h=>by cases h),.inr ⟨rfl,fun h=>f1 h.1⟩,qbl⟩
def CombX (G:Nat) (z:Int) (x y:Int):Prop:=∀ (s t:ByteArray) (w:World),Glo w→s.data.toList=Lib.itoa x→t.data.toList=Lib.itoa y→Fit x→Fit y→Calls Tryz.prog G #[.string s,.string t] w (RetX z w)
theorem nl_divInt {n d:Int} (hd:0 < d) (f1:Fit n) (f2:Fit d):Sz 300 (Rat.divInt n d):=sz_divInt hd ((fit_iff n).1 f1) ((fit_iff d).1 f2)
theorem combW_ok {xn yn z:Int} {xd yd:Nat} (G bx:Nat) (a b c d:ByteArray) (w:World) (hG:Glo w) (hbx:w.cell? ⟨bx,0,none⟩=some (.func (.func G) #[] #[])) (hE:∀ args w,(callFunc G args).run Tryz.prog w=.ok (.enter G args) w) (ha:a.data.toList=Lib.itoa xn) (hb:b.data.toList=Lib.decDigits xd) (hc:c.data.toList=Lib.itoa yn) (hd:d.data.toList=Lib.decDigits yd)
  (fa:Fit xn) (fb:Fit (xd:Int)) (fc:Fit yn) (fd:Fit (yd:Int)) (hx:0 < xd) (hy:0 < yd) (hC:CombX G z (xn * yd) (yn * xd)) :
  Calls Tryz.prog 138 #[.agg #[.string a,.string b],.agg #[.string c,.string d],.pointer (some ⟨bx,0,none⟩)] w (RetT (NumD ((Fit (xn * yd)∧Fit (yn * xd))∧Fit z∧Fit ((xd:Int) * yd)) (Rat.divInt z ((xd:Int) * yd))) w):=by
 have HA:=Lib.hid ha
 have HB:=Lib.hid hb
 have HB':Hid (b.data.toList=Lib.itoa (xd:Int)):=Lib.hid (by rw [itoa_natCast];exact hb)
 have HC:=Lib.hid hc
 have HD:=Lib.hid hd
 have HD':Hid (d.data.toList=Lib.itoa (yd:Int)):=Lib.hid (by rw [itoa_natCast];exact hd)
 have HG:=Lib.hid hG
 have HCO:=Lib.hid hC
 have hp:0 < (xd:Int) * yd:=Int.mul_pos (by omega) (by omega)
 have zx:=lt_of_cell hbx
 clear hG ha hb hc hd hC
 go_enter Tryz.func138,Tryz.ntmps138
 go_wp2_with fail
 refine (crossedW_ok xn yn xd yd a b c d _ (HG.out.below qbl) HA.out HB.out HC.out HD.out fa fb fc fd).mono ?_
 rintro e w1 ⟨u,v,k,rfl,huv,hk,hB1⟩
 have hb1:Below w.heap.size w w1:=qbl
 rcases hk with rfl|⟨rfl,f0⟩
 ·obtain ⟨hu,hv,f1,f2⟩:=huv.out rfl
  have HU:=Lib.hid hu
  have HV:=Lib.hid hv
  have k1:=keep hb1 hbx
  have c1:w1.cell? ⟨w.heap.size,1,none⟩=some (.string b):=keep hB1 (by simp [go_sem])
  have c2:w1.cell? ⟨w.heap.size+1,1,none⟩=some (.string d):=keep hB1 (by simp [go_sem])
  clear hB1 huv hu hv
  go_wp2_with fail
  refine (HCO.out u v _ (HG.out.below hb1) HU.out HV.out f1 f2).mono ?_
  intro e w2 hrz
  by_cases f3:Fit z
  ·obtain ⟨r,hr,rfl,hB2⟩:=hrz.1 f3
   have HR:=Lib.hid hr
   have hb2:Below w.heap.size w w2:=below_trans' hb1 hB2
   have c1':=keep hB2 c1
   have c2':=keep hB2 c2
   clear hr hB2 hrz
   go_wp2_with fail
   refine (Imul_ok xd yd b d _ (HG.out.below qbl) HB'.out fb HD'.out fd).mono ?_
   intro e w3 hrx
   by_cases f4:Fit ((xd:Int) * yd)
   ·obtain ⟨s,hs,rfl,hB3⟩:=hrx.1 f4
    have HS:=Lib.hid hs
    have hb3:Below w.heap.size w w3:=below_trans' hb2 hB3
    clear hs hB3 hrx
    go_wp2_with fail
    refine (Qnumber_ok z ((xd:Int) * yd) r s _ (HG.out.below qbl) HR.out f3 HS.out f4 hp).mono ?_
    rintro e w4 ⟨q,hq,rfl,hB4⟩
    have HQ:=Lib.hid hq
    have hb4:Below w.heap.size w w4:=below_trans' hb3 hB4
    clear hq hB4
    go_wp2_with fail
    go_ret2
    exact ⟨q,0,rfl,Lib.hid (.inl ⟨rfl,HQ.out,nl_divInt hp f3 f4,⟨f1,f2⟩,f3,f4⟩),hb4⟩
   ·obtain ⟨rfl,hB3⟩:=hrx.2 f4
    have hb3:Below w.heap.size w w3:=below_trans' hb2 hB3
    clear hB3 hrx
    go_wp2_with fail
    go_ret2
    exact ⟨_,4,rfl,Lib.hid (.inr ⟨rfl,rfl,fun h=>f4 h.2.2⟩),hb3⟩
  ·obtain ⟨rfl,hB2⟩:=hrz.2 f3
   have hb2:Below w.heap.size w w2:=below_trans' hb1 hB2
   clear hB2 hrz
   go_wp2_with fail
   go_ret2
   exact ⟨_,4,rfl,Lib.hid (.inr ⟨rfl,rfl,fun h=>f3 h.2.1⟩),hb2⟩
 ·clear huv
  go_wp2_with fail
  go_ret2
  exact ⟨_,4,rfl,Lib.hid (.inr ⟨rfl,rfl,fun h=>f0 h.1⟩),hb1⟩
theorem mulW_ok {xn yn:Int} {xd yd:Nat} (a b c d:ByteArray) (w:World) (hG:Glo w) (ha:a.data.toList=Lib.itoa xn) (hb:b.data.toList=Lib.decDigits xd) (hc:c.data.toList=Lib.itoa yn) (hd:d.data.toList=Lib.decDigits yd)
  (fa:Fit xn) (fb:Fit (xd:Int)) (fc:Fit yn) (fd:Fit (yd:Int)) (hx:0 < xd) (hy:0 < yd) :
  Calls Tryz.prog 110 #[.agg #[.string a,.string b],.agg #[.string c,.string d]] w (RetT (NumD (Fit (xn * yn)∧Fit ((xd:Int) * yd)) (Rat.divInt (xn * yn) ((xd:Int) * yd))) w):=by
 rw [← itoa_natCast] at hb hd
 have HA:=Lib.hid ha
 have HB:=Lib.hid hb
 have HC:=Lib.hid hc
 have HD:=Lib.hid hd
 have HG:=Lib.hid hG
 have hp:0 < (xd:Int) * yd:=Int.mul_pos (by omega) (by omega)
 clear hG ha hb hc hd
 go_enter Tryz.func110,Tryz.ntmps110
 go_wp2_with fail
 refine (Imul_ok xn yn a c _ (HG.out.below qbl) HA.out fa HC.out fc).mono ?_
 intro e w1 hrx
 by_cases f1:Fit (xn * yn)
 ·obtain ⟨r,hr,rfl,hB1⟩:=hrx.1 f1
  have HR:=Lib.hid hr
  have c1:w1.cell? ⟨w.heap.size,1,none⟩=some (.string b):=keep hB1 (by simp [go_sem])
  have c2:w1.cell? ⟨w.heap.size+1,1,none⟩=some (.string d):=keep hB1 (by simp [go_sem])
  have z1:=lt_of_cell c1
  have z2:=lt_of_cell c2
  have hb1:Below w.heap.size w w1:=qbl
  clear hr hB1 hrx
  go_wp2_with fail
  refine (Imul_ok xd yd b d _ (HG.out.below qbl) HB.out fb HD.out fd).mono ?_
  intro e w2 hrx
  by_cases f2:Fit ((xd:Int) * yd)
  ·obtain ⟨s,hs,rfl,hB2⟩:=hrx.1 f2
   have HS:=Lib.hid hs
   have hb2:Below w.heap.size w w2:=qbl
   clear hs hB2 hrx
   go_wp2_with fail
   refine (Qnumber_ok (xn * yn) ((xd:Int) * yd) r s _ (HG.out.below qbl) HR.out f1 HS.out f2 hp).mono ?_
   rintro e w3 ⟨v,hv,rfl,hB3⟩
   have HV:=Lib.hid hv
   have hb3:Below w.heap.size w w3:=qbl
   clear hv hB3
   go_wp2_with fail
   go_ret2
   exact ⟨v,0,rfl,Lib.hid (.inl ⟨rfl,HV.out,nl_divInt hp f1 f2,f1,f2⟩),hb3⟩
  ·obtain ⟨rfl,hB2⟩:=hrx.2 f2
   have hb2:Below w.heap.size w w2:=qbl
   clear hB2 hrx
   go_wp2_with fail
   go_ret2
   exact ⟨_,4,rfl,Lib.hid (.inr ⟨rfl,rfl,fun h=>f2 h.2⟩),hb2⟩
 ·obtain ⟨rfl,hB1⟩:=hrx.2 f1
  clear hrx
  go_wp2_with fail
  go_ret2
  exact ⟨_,4,rfl,Lib.hid (.inr ⟨rfl,rfl,fun h=>f1 h.1⟩),qbl⟩
theorem both_capT {p q:Rat} {Q:ByteArray→Int→Prop} (F bx:Nat) (v0:Value) (s t:ByteArray) (w:World) (hG:Glo w) (hbx:w.cell? ⟨bx,0,none⟩=some v0)
  (hs:∀ W,Glo W→Calls Tryz.prog 54 #[.string s] W (RetP p (.int .i64 0) W)) (ht:∀ W,Glo W→Calls Tryz.prog 54 #[.string t] W (RetP q (.int .i64 0) W))
  (hE:∀ args w,(callFunc F args).run Tryz.prog w=.ok (.enter F args) w)
  (hF:∀ (a b c d:ByteArray) W,Glo W→W.cell? ⟨bx,0,none⟩=some v0→a.data.toList=Lib.itoa p.num→b.data.toList=Lib.decDigits p.den→c.data.toList=Lib.itoa q.num→d.data.toList=Lib.decDigits q.den→Calls Tryz.prog F #[.agg #[.string a,.string b],.agg #[.string c,.string d],.pointer (some ⟨bx,0,none⟩)] W (RetT Q W)) :
  Calls Tryz.prog 76 #[.string s,.string t,.func (.func F) #[] #[.pointer (some ⟨bx,0,none⟩)]] w (RetT Q w):=by
 have HS:=Lib.hid hs
 have HT:=Lib.hid ht
 have HG:=Lib.hid hG
 have HF:=Lib.hid hF
 have HBX:=Lib.hid hbx
 clear hs ht hG hF hbx
 go_enter Tryz.func76,Tryz.ntmps76
 go_wp2_with fail
 refine (HS.out _ (HG.out.below qbl)).mono ?_
 rintro e w1 ⟨a,b,ha,hb,rfl,hB1⟩
 have hb1:Below w.heap.size w w1:=qbl
 clear hB1
 go_wp2_with fail
 refine (HT.out _ (HG.out.below qbl)).mono ?_
 rintro e w2 ⟨c,d,hc,hd,rfl,hB2⟩
 have hb2:Below w.heap.size w w2:=qbl
 have c1:w2.cell? ⟨w1.heap.size,0,none⟩=some (.string a):=keep hB2 (by simp [go_sem])
 have c2:w2.cell? ⟨w1.heap.size,1,none⟩=some (.string b):=keep hB2 (by simp [go_sem])
 have z1:=lt_of_cell c1
 clear hB2
 go_wp2_with fail
 refine (HF.out a b c d _ (HG.out.below qbl) (keep (show Below w.heap.size w _ from qbl) HBX.out) ha.out hb.out hc.out hd.out).mono ?_
 rintro e w3 ⟨v,k,rfl,HV,hB3⟩
 have hb3:Below w.heap.size w w3:=qbl
 clear hB3
 go_wp2_with fail
 go_ret2
 exact ⟨v,k,rfl,HV,hb3⟩
theorem both_genT {p q:Rat} {Q:ByteArray→Int→Prop} (F:Nat) (s t:ByteArray) (w:World) (hG:Glo w)
  (hs:∀ W,Glo W→Calls Tryz.prog 54 #[.string s] W (RetP p (.int .i64 0) W)) (ht:∀ W,Glo W→Calls Tryz.prog 54 #[.string t] W (RetP q (.int .i64 0) W))
  (hE:∀ args w,(callFunc F args).run Tryz.prog w=.ok (.enter F args) w)
  (hF:∀ (a b c d:ByteArray) W,Glo W→a.data.toList=Lib.itoa p.num→b.data.toList=Lib.decDigits p.den→c.data.toList=Lib.itoa q.num→d.data.toList=Lib.decDigits q.den→Calls Tryz.prog F #[.agg #[.string a,.string b],.agg #[.string c,.string d]] W (RetT Q W)) :
  Calls Tryz.prog 76 #[.string s,.string t,.func (.func F) #[] #[]] w (RetT Q w):=by
 have HS:=Lib.hid hs
 have HT:=Lib.hid ht
 have HG:=Lib.hid hG
 have HF:=Lib.hid hF
 clear hs ht hG hF
 go_enter Tryz.func76,Tryz.ntmps76
 go_wp2_with fail
 refine (HS.out _ (HG.out.below qbl)).mono ?_
 rintro e w1 ⟨a,b,ha,hb,rfl,hB1⟩
 have hb1:Below w.heap.size w w1:=qbl
 clear hB1
 go_wp2_with fail
 refine (HT.out _ (HG.out.below qbl)).mono ?_
 rintro e w2 ⟨c,d,hc,hd,rfl,hB2⟩
 have hb2:Below w.heap.size w w2:=qbl
 have c1:w2.cell? ⟨w1.heap.size,0,none⟩=some (.string a):=keep hB2 (by simp [go_sem])
 have c2:w2.cell? ⟨w1.heap.size,1,none⟩=some (.string b):=keep hB2 (by simp [go_sem])
 have z1:=lt_of_cell c1
 clear hB2
 go_wp2_with fail
 refine (HF.out a b c d _ (HG.out.below qbl) ha.out hb.out hc.out hd.out).mono ?_
 rintro e w3 ⟨v,k,rfl,HV,hB3⟩
 have hb3:Below w.heap.size w w3:=qbl
 clear hB3
 go_wp2_with fail
 go_ret2
 exact ⟨v,k,rfl,HV,hb3⟩
theorem RAddD_ok {p q:Rat} (s t:ByteArray) (w:World) (hG:Glo w) (hs:s.data.toList=ratText p) (hp:Sz 300 p) (ht:t.data.toList=ratText q) (hq:Sz 300 q) :
  Calls Tryz.prog 84 #[.string s,.string t] w (RetT (NumD (AddF p q (p.num * q.den+q.num * p.den)) (p+q)) w):=by
 by_cases hsm:Small p∧Small q
 ·refine (Add_small s t w hG hs hsm.1 ht hsm.2).mono fun e w' h=>h.nd ?_ (small_sum hsm.1 hsm.2 (Int.natAbs_add_le _ _))
  exact (Sz.mono (a:=8+8+1) (Sz.add (small_sz hsm.1) (small_sz hsm.2)) (by omega))
 ·have hC:CombX 71 (p.num * q.den+q.num * p.den) (p.num * q.den) (q.num * p.den):=fun s t w hG h1 h2 f1 f2=>Iadd_ok _ _ s t w hG h1 f1 h2 f2
  have HQ:=Lib.hid (fun W=>quick_no 145 s t W hs ht hp (show 300≤300 by omega) hq (show 300≤300 by omega) hsm)
  have HB:=Lib.hid (fun (bx:Nat) (W:World) (hG:Glo W) (hbx:W.cell? ⟨bx,0,none⟩=some (.func (.func 71) #[] #[]))=>both_capT (Q:=NumD (AddF p q (p.num * q.den+q.num * p.den)) (p+q)) 138 bx _ s t W hG hbx (fun W hG=>read_any s W hG hs hp (by omega)) (fun W hG=>read_any t W hG ht hq (by omega)) (enters_of Tryz.func138 (by kernel_rfl) rfl)
   (fun x y u v W hG hb h1 h2 h3 h4=>by rw [← rat_add];exact combW_ok 71 bx x y u v W hG hb (enters_of Tryz.func71 (by kernel_rfl) rfl) h1 h2 h3 h4 (hp.fn (by omega)) (hp.fd (by omega)) (hq.fn (by omega)) (hq.fd (by omega)) p.den_pos q.den_pos hC))
  have HG:=Lib.hid hG
  clear hs ht hG hC hp hq
  go_enter Tryz.func84,Tryz.ntmps84
  go_wp2_with fail
  refine (HQ.out _).mono ?_
  rintro e w1 ⟨rfl,hB1⟩
  go_wp2_with fail
  refine (combined_any _ _).mono ?_
  rintro e w2 ⟨rfl,rfl⟩
  go_wp2_with fail
  refine (HB.out _ _ (HG.out.below qbl) (by simp [go_sem])).mono ?_
  rintro e w3 ⟨r,k,rfl,HR,hB3⟩
  have hb3:Below w.heap.size w w3:=qbl
  clear hB3
  go_wp2_with fail
  go_ret2
  exact ⟨r,k,rfl,HR,hb3⟩
theorem RMulD_ok {p q:Rat} (s t:ByteArray) (w:World) (hG:Glo w) (hs:s.data.toList=ratText p) (hp:Sz 300 p) (ht:t.data.toList=ratText q) (hq:Sz 300 q) :
  Calls Tryz.prog 57 #[.string s,.string t] w (RetT (NumD (MulF p q) (p * q)) w):=by
 by_cases hsm:Small p∧Small q
 ·refine (Mul_small s t w hG hs hsm.1 ht hsm.2).mono fun e w' h=>h.nd ?_ (small_mulF hsm.1 hsm.2)
  exact (Sz.mono (a:=8+8) (Sz.mul (small_sz hsm.1) (small_sz hsm.2)) (by omega))
 ·have HQ:=Lib.hid (fun W=>quick_no 109 s t W hs ht hp (show 300≤300 by omega) hq (show 300≤300 by omega) hsm)
  have HB:=Lib.hid (fun (W:World) (hG:Glo W)=>both_genT (Q:=NumD (MulF p q) (p * q)) 110 s t W hG (fun W hG=>read_any s W hG hs hp (by omega)) (fun W hG=>read_any t W hG ht hq (by omega)) (enters_of Tryz.func110 (by kernel_rfl) rfl)
   (fun x y u v W hG h1 h2 h3 h4=>by rw [← rat_mul];exact mulW_ok x y u v W hG h1 h2 h3 h4 (hp.fn (by omega)) (hp.fd (by omega)) (hq.fn (by omega)) (hq.fd (by omega)) p.den_pos q.den_pos))
  have HG:=Lib.hid hG
  clear hs ht hG hp hq
  go_enter Tryz.func57,Tryz.ntmps57
  go_wp2_with fail
  refine (HQ.out _).mono ?_
  rintro e w1 ⟨rfl,hB1⟩
  go_wp2_with fail
  refine (HB.out _ (HG.out.below qbl)).mono ?_
  rintro e w3 ⟨r,k,rfl,HR,hB3⟩
  have hb3:Below w.heap.size w w3:=qbl
  clear hB3
  go_wp2_with fail
  go_ret2
  exact ⟨r,k,rfl,HR,hb3⟩
theorem RAddW_ok {p q:Rat} (s t:ByteArray) (w:World) (hG:Glo w) (hs:s.data.toList=ratText p) (hp:Sz 300 p) (ht:t.data.toList=ratText q) (hq:Sz 300 q) :
  Calls Tryz.prog 84 #[.string s,.string t] w (RetT (NumL (p+q)) w):=(RAddD_ok s t w hG hs hp ht hq).mono fun _ _ h=>h.nl
theorem RMulW_ok {p q:Rat} (s t:ByteArray) (w:World) (hG:Glo w) (hs:s.data.toList=ratText p) (hp:Sz 300 p) (ht:t.data.toList=ratText q) (hq:Sz 300 q) :
  Calls Tryz.prog 57 #[.string s,.string t] w (RetT (NumL (p * q)) w):=(RMulD_ok s t w hG hs hp ht hq).mono fun _ _ h=>h.nl
end Go.Proofs.YthihcjgmlbnapaaGreatDoor
namespace Go.Proofs.YthihcjgmlbnapaaGreatDoor
open Go.RowKit
def RetCl (q:Rat) (n:Nat) (w:World) (e:Ending) (w':World):Prop:=∃ (x y:ByteArray) (c:Int),e=.returned (.tuple #[.agg #[.string x,.string y],.int .i64 c])∧(c=0∨c=4)∧Hid (c=0→x=numS q∧y=decS n∧Sz 300 q)∧Below w.heap.size w w'
theorem cplusK_ok (S x:Rat) (l h:Nat) (w:World) (hG:Glo w) (hS:Sz 300 S) (hx:Sz 300 x) (h1:1≤l) (hl:l < 10 ^ 90) (hh:h < 10 ^ 90) (hb:ratioB h l=true) :
  Calls Tryz.prog 59 #[.agg #[.string (numS S),.string (decS l)],.agg #[.string (numS x),.string (decS h)]] w (RetCl (S+x * ratioQ h l) l w):=by
 have HRA:=Lib.hid (fun W hG=>Ratio_ok h l (decS h) (decS l) W hG (decS_list h) (decS_list l) hh hl h1)
 rw [hb] at HRA
 have hkz:=sz_ratio hh hl h1
 generalize ratioQ h l=k at *
 have HMU:=Lib.hid (fun (r:ByteArray) (hr:r.data.toList=ratText k) W hG=>RMulW_ok (numS x) r W hG (numS_list x) hx hr hkz)
 have HAD:=Lib.hid (fun (r:ByteArray) (hr:r.data.toList=ratText (x * k)) (hz:Sz 300 (x * k)) W hG=>RAddW_ok (numS S) r W hG (numS_list S) hS hr hz)
 have HG:=Lib.hid hG
 generalize hq:S+x * k=q at *
 generalize hp:x * k=p at *
 generalize numS S=sS at *
 generalize numS x=sx at *
 generalize hsn:decS l=sn at *
 generalize decS h=sh at *
 clear hG hS hx h1 hl hh hb hkz hq hp
 go_enter Tryz.func59,Tryz.ntmps59
 go_wp2_with fail
 have hb0:Below w.heap.size w (((w.alloc (.cells #[.string sS,.string sn] 78)).alloc (.cells #[.string sx,.string sh] 78)).alloc (.cells #[.string ⟨#[]⟩,.string ⟨#[]⟩] 78)):=qbl
 have x0:BoxT2 78 (((w.alloc (.cells #[.string sS,.string sn] 78)).alloc (.cells #[.string sx,.string sh] 78)).alloc (.cells #[.string ⟨#[]⟩,.string ⟨#[]⟩] 78)) w.heap.size (.string sS) (.string sn):=((BoxT2.new rfl).below (bw4 (bw0 _ _) _)).below (bw4 (bw0 _ _) _)
 have x1:BoxT2 78 (((w.alloc (.cells #[.string sS,.string sn] 78)).alloc (.cells #[.string sx,.string sh] 78)).alloc (.cells #[.string ⟨#[]⟩,.string ⟨#[]⟩] 78)) (w.heap.size+1) (.string sx) (.string sh):=(BoxT2.new (by simp)).below (bw4 (bw0 _ _) _)
 have x2:BoxT2 78 (((w.alloc (.cells #[.string sS,.string sn] 78)).alloc (.cells #[.string sx,.string sh] 78)).alloc (.cells #[.string ⟨#[]⟩,.string ⟨#[]⟩] 78)) (w.heap.size+2) (.string ⟨#[]⟩) (.string ⟨#[]⟩):=BoxT2.new (by simp)
 generalize (((w.alloc (.cells #[.string sS,.string sn] 78)).alloc (.cells #[.string sx,.string sh] 78)).alloc (.cells #[.string ⟨#[]⟩,.string ⟨#[]⟩] 78))=W0 at *
 refine (HRA.out _ (HG.out.below hb0)).mono ?_
 rintro e w1 ⟨r,rfl,hr,hB1⟩
 have hb1:=below_trans' hb0 hB1
 replace x0:=x0.below hB1
 replace x1:=x1.below hB1
 replace x2:=x2.below hB1
 have HR:=Lib.hid (hr.out rfl)
 have c0:=x1.c0
 clear hr hB1 HRA hb0
 go_wp2_with fail
 refine (HMU.out r HR.out _ (HG.out.below hb1)).mono ?_
 rintro e w2 ⟨k1,c1,rfl,hk,hB2⟩
 have hb2:=below_trans' hb1 hB2
 replace x0:=x0.below hB2
 replace x1:=x1.below hB2
 replace x2:=x2.below hB2
 have d0:=x0.c0
 clear hB2 HMU hb1 c0
 rcases hk.out with ⟨rfl,hk1,hk2⟩|⟨rfl,rfl⟩
 ·have HK:=Lib.hid hk1
  have HZ:=Lib.hid hk2
  clear hk hk1 hk2
  go_wp2_with fail
  refine (HAD.out k1 HK.out HZ.out _ (HG.out.below hb2)).mono ?_
  rintro e w3 ⟨m,c2,rfl,hm,hB3⟩
  have hb3:=below_trans' hb2 hB3
  replace x0:=x0.below hB3
  replace x2:=x2.below hB3
  have e1:=x0.c1
  clear hB3 HAD hb2 d0 x1
  rcases hm.out with ⟨rfl,hm1,hm2⟩|⟨rfl,rfl⟩
  ·obtain rfl:=numS_of hm1
   have HZ2:=Lib.hid hm2
   clear hm hm1 hm2
   generalize hns:numS q=sq at *
   go_wp2_with (refine wpList_store2 rfl _ _ _ rfl x2 Tryz.infoClass rfl rfl rfl rfl ?_;intro W hS hx2;have hbW:=hS.below hb3 (by omega);have f0:=hx2.c0;have f1:=hx2.c1;clear hS)
   refine bodyPost_ret (v:=.tuple #[.agg #[.string sq,.string sn],.int .i64 0]) (by simp [results,Tryz.results59,go_sem,f0,f1]) rfl ⟨_,_,_,rfl,.inl rfl,Lib.hid (fun _=>⟨hns.symm,hsn.symm,HZ2.out⟩),hbW⟩
  ·clear hm
   go_wp2_with (refine wpList_store2 rfl _ _ _ rfl x2 Tryz.infoClass rfl rfl rfl rfl ?_;intro W hS hx2;have hbW:=hS.below hb3 (by omega);have f0:=hx2.c0;have f1:=hx2.c1;clear hS)
   refine bodyPost_ret (v:=.tuple #[.agg #[.string ⟨#[]⟩,.string ⟨#[]⟩],.int .i64 4]) (by simp [results,Tryz.results59,go_sem,f0,f1]) rfl ⟨_,_,_,rfl,.inr rfl,Lib.hid (fun h=>by cases h),hbW⟩
 ·clear hk
  go_wp2_with (refine wpList_store2 rfl _ _ _ rfl x2 Tryz.infoClass rfl rfl rfl rfl ?_;intro W hS hx2;have hbW:=hS.below hb2 (by omega);have f0:=hx2.c0;have f1:=hx2.c1;clear hS)
  refine bodyPost_ret (v:=.tuple #[.agg #[.string ⟨#[]⟩,.string ⟨#[]⟩],.int .i64 4]) (by simp [results,Tryz.results59,go_sem,f0,f1]) rfl ⟨_,_,_,rfl,.inr rfl,Lib.hid (fun h=>by cases h),hbW⟩
end Go.Proofs.YthihcjgmlbnapaaGreatDoor
namespace Go.Proofs.YthihcjgmlbnapaaGreatDoor
open Go.RowKit
theorem cplus_ok (S x:Rat) (n:Nat) (w:World) (hG:Glo w) (hS:Sz 90 S) (hx:Sz 180 x) (h1:1≤n) (hn:n < 10 ^ 90) :
  Calls Tryz.prog 59 #[.agg #[.string (numS S),.string (decS n)],.agg #[.string (numS x),.string (decS n)]] w (RetB (.tuple #[.agg #[.string (numS (S+x)),.string (decS n)],.int .i64 0]) w):=by
 have HRA:=Lib.hid (fun W hG=>Ratio_ok n n (decS n) (decS n) W hG (decS_list n) (decS_list n) hn hn h1)
 rw [(ratio_self h1).1,(ratio_self h1).2] at HRA
 have HMU:=Lib.hid (fun (r:ByteArray) (hr:r.data.toList=ratText 1) W hG=>RMul_ok (a:=180) (b:=1) (numS x) r W hG (numS_list x) hx hr (by unfold Sz;decide) (by decide))
 have HAD:=Lib.hid (fun (r:ByteArray) (hr:r.data.toList=ratText (x * 1)) W hG=>RAdd_ok (a:=90) (b:=180) (numS S) r W hG (numS_list S) hS hr (by rw [Rat.mul_one];exact hx) (by decide))
 have HE:=Lib.hid (fun (r:ByteArray) (hr:r.data.toList=ratText (S+x * 1))=>(show r=numS (S+x) from numS_of (by rw [hr,Rat.mul_one])))
 have HG:=Lib.hid hG
 generalize numS (S+x)=R at *
 generalize numS S=sS at *
 generalize numS x=sx at *
 generalize decS n=sn at *
 clear hG hS hx h1 hn
 go_enter Tryz.func59,Tryz.ntmps59
 go_wp2_with fail
 have hb0:Below w.heap.size w (((w.alloc (.cells #[.string sS,.string sn] 78)).alloc (.cells #[.string sx,.string sn] 78)).alloc (.cells #[.string ⟨#[]⟩,.string ⟨#[]⟩] 78)):=qbl
 have x0:BoxT2 78 (((w.alloc (.cells #[.string sS,.string sn] 78)).alloc (.cells #[.string sx,.string sn] 78)).alloc (.cells #[.string ⟨#[]⟩,.string ⟨#[]⟩] 78)) w.heap.size (.string sS) (.string sn):=((BoxT2.new rfl).below (bw4 (bw0 _ _) _)).below (bw4 (bw0 _ _) _)
 have x1:BoxT2 78 (((w.alloc (.cells #[.string sS,.string sn] 78)).alloc (.cells #[.string sx,.string sn] 78)).alloc (.cells #[.string ⟨#[]⟩,.string ⟨#[]⟩] 78)) (w.heap.size+1) (.string sx) (.string sn):=(BoxT2.new (by simp)).below (bw4 (bw0 _ _) _)
 have x2:BoxT2 78 (((w.alloc (.cells #[.string sS,.string sn] 78)).alloc (.cells #[.string sx,.string sn] 78)).alloc (.cells #[.string ⟨#[]⟩,.string ⟨#[]⟩] 78)) (w.heap.size+2) (.string ⟨#[]⟩) (.string ⟨#[]⟩):=BoxT2.new (by simp)
 generalize (((w.alloc (.cells #[.string sS,.string sn] 78)).alloc (.cells #[.string sx,.string sn] 78)).alloc (.cells #[.string ⟨#[]⟩,.string ⟨#[]⟩] 78))=W0 at *
 refine (HRA.out _ (HG.out.below hb0)).mono ?_
 rintro e w1 ⟨r,rfl,hr,hB1⟩
 have hb1:=below_trans' hb0 hB1
 replace x0:=x0.below hB1
 replace x1:=x1.below hB1
 replace x2:=x2.below hB1
 have HR:=Lib.hid (hr.out rfl)
 have c0:=x1.c0
 clear hr hB1 HRA hb0
 go_wp2_with fail
 refine (HMU.out r HR.out _ (HG.out.below hb1)).mono ?_
 rintro e w2 ⟨k,hk,rfl,hB2⟩
 have hb2:=below_trans' hb1 hB2
 replace x0:=x0.below hB2
 replace x1:=x1.below hB2
 replace x2:=x2.below hB2
 have HK:=Lib.hid hk
 have d0:=x0.c0
 clear hk hB2 HMU hb1 c0
 go_wp2_with fail
 refine (HAD.out k HK.out _ (HG.out.below hb2)).mono ?_
 rintro e w3 ⟨m,hm,rfl,hB3⟩
 obtain rfl:=HE.out m hm
 have hb3:=below_trans' hb2 hB3
 replace x0:=x0.below hB3
 replace x2:=x2.below hB3
 have e1:=x0.c1
 clear hm hB3 HAD hb2 d0 x1
 go_wp2_with (refine wpList_store2 rfl _ _ _ rfl x2 Tryz.infoClass rfl rfl rfl rfl ?_;intro W hS hx2;have hbW:=hS.below hb3 (by omega);have f0:=hx2.c0;have f1:=hx2.c1;clear hS)
 refine bodyPost_ret (v:=.tuple #[.agg #[.string m,.string sn],.int .i64 0]) (by simp [results,Tryz.results59,go_sem,f0,f1]) rfl ⟨rfl,hbW⟩
end Go.Proofs.YthihcjgmlbnapaaGreatDoor
namespace Go.Proofs.YthihcjgmlbnapaaGreatDoor
open Go.RowKit Go.Shelf
attribute [local go_sem] Oper.semAt_some
def GNone (W:World) (b:Nat):Prop:=BoxT1 74 W b (.slice none 0 0)
def GOne (W:World) (b:Nat) (x y:ByteArray):Prop:=∃ g cap,BoxT1 74 W b (.slice (some ⟨g,0,none⟩) 1 cap)∧W.ownsRow (b+1) 78 2 (.slice (some ⟨g,0,none⟩) 1 cap) 1 [.string x,.string y]
theorem row_block {W:World} {B:Nat} {e:TypeId} {size n cap g:Nat} {xs:List Value} (h:W.ownsRow B e size (.slice (some ⟨g,0,none⟩) n cap) n xs):∃ cur,W.heap[g]?=some (.cells cur e (0,0))∧B≤g∧n≤cap∧cap≤maxLen∧cur.size=cap * size∧cur.toList.take (n * size)=xs:=by
 rcases h.2 with ⟨h1,_⟩|⟨g',cap',cur,h1,h2,h3,h4,h5,h6,h7⟩
 ·cases h1
 ·cases h1;exact ⟨cur,h3,h2,h4,h5,h6,h7⟩
theorem rowKp {W W':World} {B:Nat} {e:TypeId} {size n:Nat} {v:Value} {xs:List Value} (h:W.ownsRow B e size v n xs) (hk:∀ k,k < W.heap.size→B≤k→W'.heap[k]?=W.heap[k]?):W'.ownsRow B e size v n xs:=by
 refine ⟨h.1,?_⟩
 rcases h.2 with h1|⟨g',cap',cur,h1,h2,h3,h4⟩
 ·exact .inl h1
 ·exact .inr ⟨g',cap',cur,h1,h2,(hk g' (Array.getElem?_eq_some_iff.1 h3).1 h2).trans h3,h4⟩
theorem GNone.below {w w':World} {b:Nat} (h:GNone w b) (hB:Below w.heap.size w w'):GNone w' b:=BoxT1.below h hB
theorem GOne.below {w w':World} {b:Nat} {x y:ByteArray} (h:GOne w b x y) (hB:Below w.heap.size w w'):GOne w' b x y:=by
 obtain ⟨g,cap,h1,h2⟩:=h
 exact ⟨g,cap,h1.below hB,rowKp h2 fun k hk _=>hB.block k hk⟩
theorem GOne.cells {W:World} {B g cap:Nat} {x y:ByteArray} (h:W.ownsRow B 78 2 (.slice (some ⟨g,0,none⟩) 1 cap) 1 [.string x,.string y]):W.cell? ⟨g,0,none⟩=some (.string x)∧W.cell? ⟨g,1,none⟩=some (.string y):=by
 obtain ⟨cur,h3,_,hc,_,hs,ht⟩:=row_block h
 have k:∀ i u,i < 2→([.string x,.string y]:List Value)[i]?=some u→W.cell? ⟨g,i,none⟩=some u:=by
  intro i u hi hu
  rw [← ht,List.getElem?_take_of_lt (by omega)] at hu
  have h4:cur[i]?=some u:=by simpa using hu
  simp [World.cell?,h3,h4]
 exact ⟨k 0 _ (by omega) rfl,k 1 _ (by omega) rfl⟩
theorem row_set {W:World} {B g cap:Nat} {x y x' y':Value} {t:TypeId} (h:W.ownsRow B t 2 (.slice (some ⟨g,0,none⟩) 1 cap) 1 [x,y]):(W.setCells g 0 [x',y']).ownsRow B t 2 (.slice (some ⟨g,0,none⟩) 1 cap) 1 [x',y']∧SameBut g W (W.setCells g 0 [x',y']):=by
 obtain ⟨cur,h3,hB,hc,hm,hs,ht⟩:=row_block h
 have e1:=heap_setCell_at (o:=0) (v:=x') h3
 have e2:=heap_setCell_at (o:=1) (v:=y') e1
 refine ⟨⟨rfl,.inr ⟨g,cap,_,rfl,hB,e2,hc,hm,by simp [hs],?_⟩⟩,(sameBut_setCell _ _ _ _).trans (sameBut_setCell _ _ _ _)⟩
 have h2:2≤cur.size:=by omega
 obtain ⟨l⟩:=cur
 match l,h2 with
 | a::b::l,_=>simp
theorem row_there {W:World} {B g cap:Nat} {x y:Value} {t:TypeId} (h:W.ownsRow B t 2 (.slice (some ⟨g,0,none⟩) 1 cap) 1 [x,y]):W.there g 0 2:=by
 obtain ⟨cur,h3,hB,hc,hm,hs,ht⟩:=row_block h
 intro i hi
 have h2:i < cur.size:=by omega
 refine ⟨?_,?_⟩
 ·simp [World.cell?,h3,h2]
 ·simp [World.frozen?,h3]
theorem gadd_none (b:Nat) (sq sn:ByteArray) (w:World) (hx:GNone w b) :
  Calls Tryz.prog 26 #[.pointer (some ⟨b,0,none⟩),.agg #[.string sq,.string sn]] w (fun e w'=>e=.returned (.int .i64 0)∧GOne w' b sq sn∧Below b w w'):=by
 obtain ⟨i0,hi0,hz0,hz1,hz2⟩:=info_parts Tryz.infoClass3
 have hb0:Below w.heap.size w (w.alloc (.cells #[.string sq,.string sn] 49)):=bw4 (bw0 _ _) _
 have x0:GNone (w.alloc (.cells #[.string sq,.string sn] 49)) b:=hx.below hb0
 have hlt:b < w.heap.size:=BoxT1.lt hx
 have c0:=BoxT1.c0 x0
 have y0:BoxT2 49 (w.alloc (.cells #[.string sq,.string sn] 49)) w.heap.size (.string sq) (.string sn):=BoxT2.new rfl
 unfold GNone at x0
 clear hx
 go_enter Tryz.func26,Tryz.ntmps26
 go_wp2_with fail
 have hz:w.heap.size < (w.alloc (.cells #[.string sq,.string sn] 49)).heap.size:=by simp
 generalize w.alloc (.cells #[.string sq,.string sn] 49)=W0 at *
 go_loopw [19] (fun i wr=>i=.int .i64 0∧wr=W0) (fun _ _=>0)
 case atStart=>exact ⟨rfl,rfl⟩
 case round =>
  obtain ⟨rfl,hwr⟩:=hrel
  subst wr
  go_wp2_with fail
  have hR:Below W0.heap.size W0 W0.drew:=(bw0 _ _).drew
  refine region_S (F:=[14]) (R:=(fun w'=>Below W0.heap.size W0 w')) 15 #[false,false,false,false,false,false,false,false,false,false,false,false,false,false,false] (by kernel_rfl) (by kernel_rfl) (by kernel_rfl) (fun _ _ _ _ _ h=>h) (fun Q' hQ' hN=>?_)
  generalize W0.drew=wd at *
  refine tkS 69 (i:=0) (v:=?_) (fw:=5) hQ' hR rfl ?_ ?_;rotate_left;(focus (intro wq hRq;have e0:=(x0.below hRq).c0;have e1:=(y0.below hRq).c0;have e2:=(y0.below hRq).c1;go_simp;(try with_reducible rfl)));(try simp only [Act.put,bw7,bw8,bw9])
  refine tkS 70 (i:=1) (v:=?_) (fw:=5) hQ' hR rfl ?_ ?_;rotate_left;(focus (intro wq hRq;have e0:=(x0.below hRq).c0;have e1:=(y0.below hRq).c0;have e2:=(y0.below hRq).c1;go_simp;(try with_reducible rfl)));(try simp only [Act.put,bw7,bw8,bw9])
  refine tkS 71 (i:=2) (v:=?_) (fw:=5) hQ' hR rfl ?_ ?_;rotate_left;(focus (intro wq hRq;have e0:=(x0.below hRq).c0;have e1:=(y0.below hRq).c0;have e2:=(y0.below hRq).c1;go_simp;(try with_reducible rfl)));(try simp only [Act.put,bw7,bw8,bw9])
  refine tkS 72 (i:=3) (v:=?_) (fw:=5) hQ' hR rfl ?_ ?_;rotate_left;(focus (intro wq hRq;have e0:=(x0.below hRq).c0;have e1:=(y0.below hRq).c0;have e2:=(y0.below hRq).c1;go_simp;(try with_reducible rfl)));(try simp only [Act.put,bw7,bw8,bw9])
  refine tkS 73 (i:=4) (v:=?_) (fw:=5) hQ' hR rfl ?_ ?_;rotate_left;(focus (intro wq hRq;have e0:=(x0.below hRq).c0;have e1:=(y0.below hRq).c0;have e2:=(y0.below hRq).c1;go_simp;(try with_reducible rfl)));(try simp only [Act.put,bw7,bw8,bw9])
  refine tkS 74 (i:=5) (v:=?_) (fw:=5) hQ' hR rfl ?_ ?_;rotate_left;(focus (intro wq hRq;have e0:=(x0.below hRq).c0;have e1:=(y0.below hRq).c0;have e2:=(y0.below hRq).c1;go_simp;(try with_reducible rfl)));(try simp only [Act.put,bw7,bw8,bw9])
  refine tkS 75 (i:=6) (v:=?_) (fw:=5) hQ' hR rfl ?_ ?_;rotate_left;(focus (intro wq hRq;have e0:=(x0.below hRq).c0;have e1:=(y0.below hRq).c0;have e2:=(y0.below hRq).c1;go_simp;(try with_reducible rfl)));(try simp only [Act.put,bw7,bw8,bw9])
  refine tkS 76 (i:=7) (v:=?_) (fw:=5) hQ' hR rfl ?_ ?_;rotate_left;(focus (intro wq hRq;have e0:=(x0.below hRq).c0;have e1:=(y0.below hRq).c0;have e2:=(y0.below hRq).c1;go_simp;(try with_reducible rfl)));(try simp only [Act.put,bw7,bw8,bw9])
  refine tkS 77 (i:=8) (v:=?_) (fw:=5) hQ' hR rfl ?_ ?_;rotate_left;(focus (intro wq hRq;have e0:=(x0.below hRq).c0;have e1:=(y0.below hRq).c0;have e2:=(y0.below hRq).c1;go_simp;(try with_reducible rfl)));(try simp only [Act.put,bw7,bw8,bw9])
  refine tkS 78 (i:=9) (v:=?_) (fw:=5) hQ' hR rfl ?_ ?_;rotate_left;(focus (intro wq hRq;have e0:=(x0.below hRq).c0;have e1:=(y0.below hRq).c0;have e2:=(y0.below hRq).c1;go_simp;(try with_reducible rfl)));(try simp only [Act.put,bw7,bw8,bw9])
  refine wpAnyS_ready (rs:=[10]) (by kernel_rfl) (by simp) ?_
  refine stepR (i:=10) rfl (by kernel_rfl) (fun K hK=>?_) (AllReadyS.nil)
  go_simp
  refine after_alloc (fun wb hB' hvb hzb=>?_)
  have hR:Below W0.heap.size W0 wb:=below_trans' hR hB'
  have hbl:BoxT2 78 wb wd.heap.size (.string sq) (.string sn):=hvb
  obtain ⟨vb,hvb'⟩:∃ vb,wd.heap.size=vb:=⟨_,rfl⟩
  rw [hvb'] at hbl hzb ⊢
  clear hvb hB' hvb'
  refine hK.out _ _ hR ?_
  clear hK K
  (try simp only [Act.put,bw7,bw8,bw9])
  refine wpAnyS_ready (rs:=[11]) (by kernel_rfl) (by simp) ?_
  refine stepR (i:=11) rfl (by kernel_rfl) (fun K hK=>?_) (AllReadyS.nil)
  refine wp_append_lies _ _ _ 72 (by rfl) (b+1) 78 i0 (.agg #[.string ⟨#[]⟩,.string ⟨#[]⟩]) 2 32 Tryz.underlying72 hi0 hz0 hz1 hz2 rfl (by decide) (.slice none 0 0) 0 [] rfl (World.ownsRow_nil _ _ _ _) ⟨vb,0,none⟩ 1 1 [.string sq,.string sn] rfl rfl (two_cells hbl) (by simp [Value.oneCell']) (by decide) (by decide) (by decide) (by have:=hR.size;omega) _ rfl (fun g cap wa hrow hgr hgH hgl=>?_)
  have hR2:Below W0.heap.size W0 wa:=Below.grown hR hgr hR.size (fun k hk=>by cases hk)
  have hR:Below W0.heap.size W0 wa:=hR2
  clear hR2 hgr hgH hgl
  refine hK.out _ _ hR ?_
  clear hK K
  (try simp only [Act.put,bw7,bw8,bw9])
  refine tkS 81 (i:=12) (v:=?_) (fw:=5) hQ' hR rfl ?_ ?_;rotate_left;(focus (intro wq hRq;have e0:=(x0.below hRq).c0;have e1:=(y0.below hRq).c0;have e2:=(y0.below hRq).c1;go_simp;(try with_reducible rfl)));(try simp only [Act.put,bw7,bw8,bw9])
  refine tkS 82 (i:=13) (v:=?_) (fw:=5) hQ' hR rfl ?_ ?_;rotate_left;(focus (intro wq hRq;have e0:=(x0.below hRq).c0;have e1:=(y0.below hRq).c0;have e2:=(y0.below hRq).c1;go_simp;(try with_reducible rfl)));(try simp only [Act.put,bw7,bw8,bw9])
  refine wpAnyS_ready (rs:=[14]) (by kernel_rfl) (by simp) ?_
  refine stepF (i:=14) rfl (by kernel_rfl) (by kernel_rfl) (fun K hK=>?_) (AllReadyS.nil)
  refine wp_store1 72 74 _ _ rfl (x0.below hR) Tryz.infoClasses rfl rfl rfl (fun wx hS hbx=>?_)
  have hrow2:=rowKp (W':=wx) hrow (fun k hk hbk=>hS.block k (by omega))
  have hBx:Below b w wx:=hS.below ((hb0.mono (by omega)).trans (hR.mono (by omega))) (Nat.le_refl _)
  clear hS hrow
  refine hK.out _ _ ?_
  clear hK K
  (try simp only [Act.put,bw7,bw8,bw9])
  refine wpAnyS_done (by kernel_rfl) ?_ _
  refine hN.out _ _ ?_
  go_wp2_with fail
  go_ret
  exact ⟨rfl,⟨g,cap,hbx,hrow2⟩,hBx⟩
theorem gadd_one (b n:Nat) (S x:Rat) (w:World) (hG:Glo w) (hx:GOne w b (numS S) (decS n)) (hS:Sz 90 S) (hxz:Sz 180 x) (h1:1≤n) (hn:n < 10 ^ 90) (h12:12≤b) :
  Calls Tryz.prog 26 #[.pointer (some ⟨b,0,none⟩),.agg #[.string (numS x),.string (decS n)]] w (fun e w'=>e=.returned (.int .i64 0)∧GOne w' b (numS (S+x)) (decS n)∧Below b w w'):=by
 obtain ⟨g,cap,hx,hrow⟩:=hx
 have HRA:=Lib.hid (fun W hG=>Ratio_ok n n (decS n) (decS n) W hG (decS_list n) (decS_list n) hn hn h1)
 rw [(ratio_self h1).1,(ratio_self h1).2] at HRA
 have HCM:=Lib.hid (fun W hG=>RCompare_ok (k:=90) (m:=90) (p:=((n:Int):Rat)) (q:=((n:Int):Rat)) (decS n) (decS n) W hG (by rw [text_natR];exact decS_list n) (sz_natR hn (by decide)) (by rw [text_natR];exact decS_list n) (sz_natR hn (by decide)) (by decide))
 have hci:Lib.compareInt ((((n:Int):Rat)).num * ((((n:Int):Rat)).den:Int)) ((((n:Int):Rat)).num * ((((n:Int):Rat)).den:Int))=0:=by unfold Lib.compareInt;rw [if_neg (by omega),if_neg (by omega)]
 rw [hci] at HCM
 have HPL:=Lib.hid (fun W hG=>cplus_ok S x n W hG hS hxz h1 hn)
 have HG:=Lib.hid hG
 have hlt:b < w.heap.size:=BoxT1.lt hx
 have hgb:b+1≤g:=(row_block hrow).choose_spec.2.1
 have hgl:g < w.heap.size:=(Array.getElem?_eq_some_iff.1 (row_block hrow).choose_spec.1).1
 obtain ⟨d0,d1⟩:=GOne.cells hrow
 have hcap:(1:Int)≤(cap:Int):=by have:=(row_block hrow).choose_spec.2.2.1;omega
 generalize numS (S+x)=sR at *
 generalize numS S=sS at *
 generalize numS x=sx at *
 generalize decS n=sn at *
 have hb0:Below w.heap.size w (w.alloc (.cells #[.string sx,.string sn] 49)):=bw4 (bw0 _ _) _
 have x0:BoxT1 74 (w.alloc (.cells #[.string sx,.string sn] 49)) b (.slice (some ⟨g,0,none⟩) 1 cap):=hx.below hb0
 have c0:=BoxT1.c0 x0
 have y0:BoxT2 49 (w.alloc (.cells #[.string sx,.string sn] 49)) w.heap.size (.string sx) (.string sn):=BoxT2.new rfl
 have r0:=rowKp hrow (W':=(w.alloc (.cells #[.string sx,.string sn] 49))) fun k hk _=>hb0.block k hk
 replace d0:=keep hb0 d0
 replace d1:=keep hb0 d1
 clear hx hrow hG hS hxz h1 hn hci
 go_enter Tryz.func26,Tryz.ntmps26
 go_wp2_with fail
 have hz:w.heap.size < (w.alloc (.cells #[.string sx,.string sn] 49)).heap.size:=by simp
 generalize w.alloc (.cells #[.string sx,.string sn] 49)=W0 at *
 go_loopw [19] (fun i wr=>i=.int .i64 0∧wr=W0) (fun _ _=>0)
 case atStart=>exact ⟨rfl,rfl⟩
 case round =>
  obtain ⟨rfl,hwr⟩:=hrel
  subst wr
  have e0:=y0.c0
  have e1:=y0.c1
  go_wp2_with fail
  clear e0 e1
  have hb1:Below w.heap.size w (W0.alloc (.cells #[.string sS,.string sn] 78)):=bw4 hb0 _
  have hB1:Below W0.heap.size W0 (W0.alloc (.cells #[.string sS,.string sn] 78)):=bw4 (bw0 _ _) _
  have y1:BoxT2 78 (W0.alloc (.cells #[.string sS,.string sn] 78)) W0.heap.size (.string sS) (.string sn):=BoxT2.new rfl
  replace y0:=y0.below hB1
  replace x0:=x0.below hB1
  replace r0:=rowKp r0 (fun k hk _=>hB1.block k hk)
  have hz1:W0.heap.size < (W0.alloc (.cells #[.string sS,.string sn] 78)).heap.size:=by simp
  generalize W0.alloc (.cells #[.string sS,.string sn] 78)=W1 at *
  refine (HRA.out _ (HG.out.below hb1)).mono ?_
  rintro e w1 ⟨r,rfl,hr,hB2⟩
  have hb2:=below_trans' hb1 hB2
  have hz2:=hB2.size
  replace y0:=y0.below hB2
  replace y1:=y1.below hB2
  replace x0:=x0.below hB2
  replace r0:=rowKp r0 (fun k hk _=>hB2.block k hk)
  have f0:=y0.c0
  have f1:=y0.c1
  have g1:=y1.c1
  have hlA:W0.heap.size < w1.heap.size:=by omega
  clear hr hB1 hB2 hb1 HRA c0 d0 d1
  go_wp2_with fail
  have hb3:Below w.heap.size w (w1.alloc (.cells #[.string sx,.string sn] 78)):=bw4 hb2 _
  have hB3:Below w1.heap.size w1 (w1.alloc (.cells #[.string sx,.string sn] 78)):=bw4 (bw0 _ _) _
  have y2:BoxT2 78 (w1.alloc (.cells #[.string sx,.string sn] 78)) w1.heap.size (.string sx) (.string sn):=BoxT2.new rfl
  replace y1:=y1.below hB3
  replace x0:=x0.below hB3
  replace r0:=rowKp r0 (fun k hk _=>hB3.block k hk)
  have hz3:w1.heap.size < (w1.alloc (.cells #[.string sx,.string sn] 78)).heap.size:=by simp
  generalize w1.alloc (.cells #[.string sx,.string sn] 78)=W2 at *
  refine (HCM.out _ (HG.out.below hb3)).mono ?_
  rintro e w3 ⟨rfl,hB4⟩
  have hb4:=below_trans' hb3 hB4
  have hz4:=hB4.size
  replace y1:=y1.below hB4
  replace y2:=y2.below hB4
  replace x0:=x0.below hB4
  replace r0:=rowKp r0 (fun k hk _=>hB4.block k hk)
  have l0:=y1.c0
  have l1:=y1.c1
  have l2:=y2.c0
  have l3:=y2.c1
  clear hB3 hB4 hb3 HCM f0 f1 g1 y0
  go_wp2_with fail
  refine (HPL.out _ (HG.out.below hb4)).mono ?_
  rintro e w5 ⟨rfl,hB5⟩
  have hb5:=below_trans' hb4 hB5
  have hz5:=hB5.size
  replace x0:=x0.below hB5
  replace r0:=rowKp r0 (fun k hk _=>hB5.block k hk)
  clear hB5 hb4 HPL l0 l1 l2 l3 y1 y2
  go_wp2_with fail
  have hb6:Below w.heap.size w (w5.alloc (.cells #[.string sR,.string sn] 78)):=bw4 hb5 _
  have hB6:Below w5.heap.size w5 (w5.alloc (.cells #[.string sR,.string sn] 78)):=bw4 (bw0 _ _) _
  have y3:BoxT2 78 (w5.alloc (.cells #[.string sR,.string sn] 78)) w5.heap.size (.string sR) (.string sn):=BoxT2.new rfl
  replace x0:=x0.below hB6
  replace r0:=rowKp r0 (fun k hk _=>hB6.block k hk)
  have hz6:w5.heap.size < (w5.alloc (.cells #[.string sR,.string sn] 78)).heap.size:=by simp
  generalize w5.alloc (.cells #[.string sR,.string sn] 78)=W3 at *
  clear hB6 hb5
  have hR:Below W3.heap.size W3 W3.drew:=(bw0 _ _).drew
  refine region_S (F:=[7]) (R:=(fun w'=>Below W3.heap.size W3 w')) 8 #[false,false,false,false,false,false,false,false] (by kernel_rfl) (by kernel_rfl) (by kernel_rfl) (fun _ _ _ _ _ h=>h) (fun Q' hQ' hN=>?_)
  generalize W3.drew=wd at *
  refine tkS 60 (i:=0) (v:=?_) (fw:=5) hQ' hR rfl ?_ ?_;rotate_left;(focus (intro wq hRq;have e0:=(x0.below hRq).c0;have e1:=(y3.below hRq).c0;have e2:=(y3.below hRq).c1;go_simp;(try with_reducible rfl)));(try simp only [Act.put,bw7,bw8,bw9])
  refine tkS 61 (i:=1) (v:=?_) (fw:=5) hQ' hR rfl ?_ ?_;rotate_left;(focus (intro wq hRq;have e0:=(x0.below hRq).c0;have e1:=(y3.below hRq).c0;have e2:=(y3.below hRq).c1;go_simp;(try with_reducible rfl)));(try simp only [Act.put,bw7,bw8,bw9])
  refine tkS 62 (i:=2) (v:=?_) (fw:=5) hQ' hR rfl ?_ ?_;rotate_left;(focus (intro wq hRq;have e0:=(x0.below hRq).c0;have e1:=(y3.below hRq).c0;have e2:=(y3.below hRq).c1;go_simp;(try with_reducible rfl)));(try simp only [Act.put,bw7,bw8,bw9])
  refine tkS 63 (i:=3) (v:=?_) (fw:=5) hQ' hR rfl ?_ ?_;rotate_left;(focus (intro wq hRq;have e0:=(x0.below hRq).c0;have e1:=(y3.below hRq).c0;have e2:=(y3.below hRq).c1;go_simp;(try with_reducible rfl)));(try simp only [Act.put,bw7,bw8,bw9])
  refine tkS 64 (i:=4) (v:=?_) (fw:=5) hQ' hR rfl ?_ ?_;rotate_left;(focus (intro wq hRq;have e0:=(x0.below hRq).c0;have e1:=(y3.below hRq).c0;have e2:=(y3.below hRq).c1;go_simp;(try with_reducible rfl)));(try simp only [Act.put,bw7,bw8,bw9])
  refine tkS 65 (i:=5) (v:=?_) (fw:=5) hQ' hR rfl ?_ ?_;rotate_left;(focus (intro wq hRq;have e0:=(x0.below hRq).c0;have e1:=(y3.below hRq).c0;have e2:=(y3.below hRq).c1;go_simp;(try with_reducible rfl)));(try simp only [Act.put,bw7,bw8,bw9])
  refine tkS 66 (i:=6) (v:=?_) (fw:=5) hQ' hR rfl ?_ ?_;rotate_left;(focus (intro wq hRq;have e0:=(x0.below hRq).c0;have e1:=(y3.below hRq).c0;have e2:=(y3.below hRq).c1;go_simp;(try with_reducible rfl)));(try simp only [Act.put,bw7,bw8,bw9])
  refine wpAnyS_ready (rs:=[7]) (by kernel_rfl) (by simp) ?_
  refine stepF (i:=7) rfl (by kernel_rfl) (by kernel_rfl) (fun K hK=>?_) (AllReadyS.nil)
  have rr:=rowKp (W':=_) r0 (fun k hk _=>hR.block k hk)
  refine wp_store_mid 78 _ _ rfl g 0 #[.string sR,.string sn] rfl rfl (row_there rr) Tryz.infoClass (by simp [Value.oneCell']) ?_
  obtain ⟨hrow2,hS⟩:=row_set (x':=.string sR) (y':=.string sn) rr
  have hbx:=(x0.below hR).but hS (by omega)
  have hBx:=hS.below ((hb6.mono (show b≤w.heap.size by omega)).trans (hR.mono (by omega))) (show b≤g by omega)
  clear hS rr
  generalize World.setCells _ g 0 _=wx at *
  refine hK.out _ _ ?_
  clear hK K
  (try simp only [Act.put,bw7,bw8,bw9])
  refine wpAnyS_done (by kernel_rfl) ?_ _
  refine hN.out _ _ ?_
  go_wp2_with fail
  go_ret
  exact ⟨rfl,⟨g,cap,hbx,hrow2⟩,hBx⟩
end Go.Proofs.YthihcjgmlbnapaaGreatDoor
namespace Go.Proofs.YthihcjgmlbnapaaGreatDoor
open Go.RowKit
end Go.Proofs.YthihcjgmlbnapaaGreatDoor
namespace Go.Proofs.YthihcjgmlbnapaaGreatDoor
open Go.RowKit
end Go.Proofs.YthihcjgmlbnapaaGreatDoor
namespace Go.Proofs.YthihcjgmlbnapaaGreatDoor
open Go.RowKit
theorem sCheck_ok (L:TTexts) (v:Value) (w:World) (hG:Glo w) (hP:Pri w) (hv:IsTerms w v L) (hsz:∀ k,k < L.length→(tt L k).1.size≤1000∧(tt L k).2.size≤1000) :
  Calls Tryz.prog 52 #[v] w (RetC0 (SurdOk L) w):=by
 have HV:=Lib.hid hv
 obtain ⟨a,cap,rfl,hcap,h⟩:=hv
 have HC:=Lib.hid h
 have HG:=Lib.hid hG
 have HP:=Lib.hid hP
 have HS:=Lib.hid hsz
 clear h hG hP hsz
 by_cases h16:16 < L.length
 ·have HNC:=Lib.hid (show ¬ SurdOk L from fun ⟨T,h⟩=>by have:=h.len;omega)
  have h16':(16:Int) < (L.length:Int):=by omega
  go_enter Tryz.func52,Tryz.ntmps52
  go_wp2_with fail
  go_ret
  exact ⟨4,rfl,Lib.hid ⟨fun h=>absurd h (by decide),fun h=>absurd h HNC.out⟩,bw0 _ _⟩
 have h16':¬ (16:Int) < (L.length:Int):=by omega
 go_enter Tryz.func52,Tryz.ntmps52
 go_wp2_with fail
 go_loopw [13] (fun i wr=>∃ k:Nat,k≤L.length∧i=.int .i64 k∧Below w.heap.size w wr∧Hid (∃ T,SurdIs (L.take k) T)) (fun i _=>L.length - (intOf i).toNat)
 case atStart=>exact ⟨0,by omega,rfl,bw0 _ _,Lib.hid ⟨[],SurdIs.nil⟩⟩
 case round =>
  obtain ⟨k,hk,rfl,hB,hT⟩:=hrel
  by_cases hlt:k < L.length
  ·obtain ⟨b,off,rfl,hc⟩:=HC.out (fun h=>by rw [h] at hlt;simp at hlt)
   obtain ⟨d0,d1⟩:=(hc k hlt).below (w':=wr) hB
   obtain ⟨T,hT⟩:=hT.out
   have HST:=Lib.hid (step_iff hT hlt (by omega))
   have HTT:=Lib.hid hT
   have HCC:=Lib.hid hc
   have hltI:(k:Int) < (L.length:Int):=by omega
   obtain ⟨c,hcc⟩:∃ c,(tt L k).1=c:=⟨_,rfl⟩
   obtain ⟨r,hrr⟩:∃ r,(tt L k).2=r:=⟨_,rfl⟩
   rw [hcc] at d0
   rw [hrr] at d1
   rw [hcc,hrr] at HST
   have HRI:=Lib.hid (fun W hG hP=>right_ok c r W hG hP (by rw [← hcc];exact (HS.out k hlt).1) (by rw [← hrr];exact (HS.out k hlt).2))
   clear hc hT hcc hrr
   go_wp2_with fail
   have hb1:Below w.heap.size w (wr.alloc (.cells #[.string c,.string r] 49)):=bw4 hB _
   refine (HRI.out _ (HG.out.below hb1) (HP.out.below hb1)).mono ?_
   rintro e w2 ⟨k1,rfl,hk1,hB2⟩
   have hb2:=below_trans' hb1 hB2
   have t0:w2.cell? ⟨wr.heap.size,0,none⟩=some (.string c):=keep hB2 (by simp [go_sem])
   have t1:w2.cell? ⟨wr.heap.size,1,none⟩=some (.string r):=keep hB2 (by simp [go_sem])
   have hwr:=hB.size
   clear hB2 hb1 hB d0 d1 HRI
   rcases (Decidable.em (k1=0)).symm with hz1|hz1
   ·have HNC:=Lib.hid (show ¬ SurdOk L from fun ⟨T',h'⟩=>by
     obtain ⟨q,m,h1,_⟩:=HST.out.1 ⟨_,h'.take (k+1)⟩
     exact hz1 (hk1.out.2 ⟨q,m,h1⟩))
    clear hk1 HST t0 t1
    go_wp2_with fail
    go_ret
    exact ⟨k1,rfl,Lib.hid ⟨fun h=>absurd h hz1,fun h=>absurd h HNC.out⟩,hb2⟩
   obtain ⟨q,m,hqm⟩:=hk1.out.1 hz1
   subst hz1
   have HQM:=Lib.hid hqm
   clear hk1 hqm
   have hk1:IntKind.i64.wrap ((k:Int)+1)=((k+1:Nat):Int):=IntWalk.i64_in _ (by omega)
   by_cases hk0:k=0
   ·subst hk0
    have HN:Hid (∃ T,SurdIs (L.take (0+1)) T):=Lib.hid (HST.out.2 ⟨q,m,HQM.out,fun h=>absurd h (by omega),fun i hi=>absurd hi (by omega)⟩)
    clear HST t0 t1
    go_wp2_with fail
    go_roundw
    case rel=>exact ⟨0+1,by omega,by go_num,hb2,HN⟩
    case measure=>simp [intOf];omega
   obtain ⟨j,rfl⟩:∃ j,k=j+1:=⟨k - 1,by omega⟩
   have hjl:j < L.length:=by omega
   have hpj:Hid (TermAt w2 b (off+j * 2) (tt L j)):=Lib.hid ((HCC.out j hjl).below hb2)
   have hokj:=HTT.out.ok j (by rw [List.length_take];omega)
   rw [tt_take (by omega)] at hokj
   obtain ⟨s,hss⟩:∃ s,(tt L j).2=s:=⟨_,rfl⟩
   obtain ⟨m',hm'⟩:∃ m',(tq T j).2=m':=⟨_,rfl⟩
   have e1:=hpj.out.2
   rw [hss] at e1
   rw [hss,hm'] at hokj
   have HOJ:=Lib.hid hokj
   have hz40:∀ x:Nat,(Lib.decDigits x).length≤40→Sz 40 ((x:Int):Rat):=fun x hx=>sz_natR (lenSz hx) (by decide)
   have HCM:=Lib.hid (fun W hG=>RCompare_ok (k:=40) (m:=40) (p:=((m':Int):Rat)) (q:=((m:Int):Rat)) s r W hG (by rw [text_natR];exact HOJ.out.r) (hz40 _ HOJ.out.rn) (by rw [text_natR];exact HQM.out.r) (hz40 _ HQM.out.rn) (by decide))
   have hci:Lib.compareInt ((((m':Int):Rat)).num * ((((m:Int):Rat)).den:Int)) ((((m:Int):Rat)).num * ((((m':Int):Rat)).den:Int))=Lib.compareInt (m':Int) (m:Int):=by
    show Lib.compareInt ((m':Int) * 1) ((m:Int) * 1)=_
    rw [Int.mul_one,Int.mul_one]
   rw [hci] at HCM
   obtain ⟨o,ho⟩:∃ o,Lib.compareInt (m':Int) (m:Int)=o:=⟨_,rfl⟩
   rw [ho] at HCM
   have HO:=Lib.hid ho
   have HM':=Lib.hid hm'
   clear hokj hz40 hci ho hss hm' hpj hk0
   have hwj:IntKind.i64.wrap ((j:Int)+1 - 1)=(j:Int):=by rw [show (j:Int)+1 - 1=(j:Int) by omega];exact IntWalk.i64_in _ (by omega)
   have hwj2:IntKind.i64.wrap (j:Int)=(j:Int):=IntWalk.i64_in _ (by omega)
   have hjI:(j:Int) < (L.length:Int):=by omega
   have hj1:¬ (j:Int)+1=0:=by omega
   go_wp2_with fail
   have hR:(w2.drew.cell? ⟨b,off+j * 2+1,none⟩=some (.string s)∧w2.drew.cell? ⟨wr.heap.size,1,none⟩=some (.string r))∧Below w.heap.size w w2.drew:=⟨⟨keep ((bw0 _ _).drew) e1,keep ((bw0 _ _).drew) t1⟩,hb2.trans ((bw0 _ _).drew.mono hb2.size)⟩
   refine region_S (F:=[]) (R:=(fun w'=>(w'.cell? ⟨b,off+j * 2+1,none⟩=some (.string s)∧w'.cell? ⟨wr.heap.size,1,none⟩=some (.string r))∧Below w.heap.size w w')) 14 #[false,false,false,false,false,false,false,false,false,false,false,false,false,false] (by kernel_rfl) (by kernel_rfl) (by kernel_rfl) (fun _ _ _ _ _ h=>h) (fun Q' hQ' hN=>?_)
   generalize w2.drew=wd at *
   refine tS 26 0 (fw:=5) (hy:=by intro wq hRq;obtain ⟨⟨e0,e1⟩,_⟩:=hRq;go_simp;(try with_reducible rfl)) ?_
   refine tS 27 1 (fw:=5) (hy:=by intro wq hRq;obtain ⟨⟨e0,e1⟩,_⟩:=hRq;go_simp;(try with_reducible rfl)) ?_
   refine tS 28 2 (fw:=5) (hy:=by intro wq hRq;obtain ⟨⟨e0,e1⟩,_⟩:=hRq;go_simp;(try with_reducible rfl)) ?_
   refine tS 29 3 (fw:=5) (hy:=by intro wq hRq;obtain ⟨⟨e0,e1⟩,_⟩:=hRq;go_simp;(try with_reducible rfl)) ?_
   refine tS 30 4 (fw:=5) (hy:=by intro wq hRq;obtain ⟨⟨e0,e1⟩,_⟩:=hRq;go_simp;(try with_reducible rfl)) ?_
   refine tS 31 5 (fw:=5) (hy:=by intro wq hRq;obtain ⟨⟨e0,e1⟩,_⟩:=hRq;go_simp;(try with_reducible rfl)) ?_
   refine tS 32 6 (fw:=5) (hy:=by intro wq hRq;obtain ⟨⟨e0,e1⟩,_⟩:=hRq;go_simp;(try with_reducible rfl)) ?_
   refine tS 33 7 (fw:=5) (hy:=by intro wq hRq;obtain ⟨⟨e0,e1⟩,_⟩:=hRq;go_simp;(try with_reducible rfl)) ?_
   refine wpAnyS_ready (rs:=[8]) (by kernel_rfl) (by simp) ?_
   refine stepR (i:=8) rfl (by kernel_rfl) (fun K hK=>?_) (AllReadyS.nil)
   go_simp
   refine (HCM.out _ (HG.out.below hR.2)).mono ?_
   rintro e wn ⟨rfl,hBn⟩
   have hR:(wn.cell? ⟨b,off+j * 2+1,none⟩=some (.string s)∧wn.cell? ⟨wr.heap.size,1,none⟩=some (.string r))∧Below w.heap.size w wn:=⟨⟨keep hBn hR.1.1,keep hBn hR.1.2⟩,below_trans' hR.2 hBn⟩
   refine hK.out _ _ hR ?_
   clear hK K hBn
   (try simp only [Act.put,bw7,bw8,bw9])
   refine tS 25 9 (fw:=5) (hy:=by intro wq hRq;obtain ⟨⟨e0,e1⟩,_⟩:=hRq;go_simp;(try with_reducible rfl)) ?_
   refine tS 35 10 (fw:=5) (hy:=by intro wq hRq;obtain ⟨⟨e0,e1⟩,_⟩:=hRq;go_simp;(try with_reducible rfl)) ?_
   refine tS 36 11 (fw:=5) (hy:=by intro wq hRq;obtain ⟨⟨e0,e1⟩,_⟩:=hRq;go_simp;(try with_reducible rfl)) ?_
   refine tS 6 12 (fw:=5) (hy:=by intro wq hRq;obtain ⟨⟨e0,e1⟩,_⟩:=hRq;go_simp;(try with_reducible rfl)) ?_
   refine tS 7 13 (fw:=5) (hy:=by intro wq hRq;obtain ⟨⟨e0,e1⟩,_⟩:=hRq;go_simp;(try with_reducible rfl)) ?_
   refine wpAnyS_done (by kernel_rfl) ?_ _
   refine hN.out _ _ ?_
   by_cases hmm:m' < m
   ·have ho1:o=-1:=by rw [← HO.out];unfold Lib.compareInt;rw [if_pos (by omega)]
    subst ho1
    have hvt:IsTerms wn (.slice (some ⟨b,off,none⟩) (L.take (j+1)).length cap) (L.take (j+1)):=⟨_,cap,rfl,by rw [List.length_take];omega,fun _=>⟨b,off,rfl,fun i hi=>by
     have hi':i < j+1:=by rw [List.length_take] at hi;omega
     rw [tt_take hi']
     exact (HCC.out i (by omega)).below hR.2⟩⟩
    have hlen:(L.take (j+1)).length=j+1:=by rw [List.length_take];omega
    rw [hlen] at hvt
    have HCF:=Lib.hid (fun W (hBW:Below wn.heap.size wn W) (hv:IsTerms W (.slice (some ⟨b,off,none⟩) (j+1) cap) (L.take (j+1)))=>containsTerm_any 98 #[.pointer (some ⟨wr.heap.size,0,none⟩)] (L.take (j+1)) (fun i=>ratioB m (tq T i).2) (.slice (some ⟨b,off,none⟩) (j+1) cap) W hv (by rw [hlen];omega) (enters_of Tryz.func98 (by kernel_rfl) rfl) (fun i hi W2 hW2=>by
     rw [hlen] at hi
     have hoi:=HTT.out.ok i (by rw [hlen];exact hi)
     have hB2:=hBW.trans (hW2.mono hBW.size)
     exact checkF_ok m (tq T i).2 wr.heap.size _ _ r W2 (HG.out.below (below_trans' hR.2 hB2)) (keep hB2 hR.1.2) hoi.r HQM.out.r (Nat.lt_of_lt_of_le (lenSz HQM.out.rn) (Nat.pow_le_pow_right (by decide) (by decide))) (Nat.lt_of_lt_of_le (lenSz hoi.rn) (Nat.pow_le_pow_right (by decide) (by decide))) hoi.m1))
    have HVT:=Lib.hid hvt
    have hcap1:(j:Int)+1≤(cap:Int):=by omega
    have HM:=Lib.hid hmm
    clear hvt HO hmm hlen
    go_wp2_with fail
    refine (HCF.out wn (bw0 _ _) HVT.out).mono ?_
    rintro e w5 ⟨B,rfl,hBn,hB5⟩
    have hb5:=below_trans' hR.2 hB5
    have hlen:(L.take (j+1)).length=j+1:=by rw [List.length_take];omega
    rw [hlen] at hBn
    clear HCF HVT hB5 hR t0 t1 e1 HCM
    cases B
    ·have HN:Hid (∃ T,SurdIs (L.take (j+1+1)) T):=Lib.hid (HST.out.2 ⟨q,m,HQM.out,fun _=>by rw [Nat.add_sub_cancel,HM'.out];exact HM.out,hBn.out.1 rfl⟩)
     clear HST hBn
     go_wp2_with fail
     go_roundw
     case rel=>exact ⟨j+1+1,by omega,by go_num,hb5,HN⟩
     case measure=>simp [intOf];omega
    ·have HNC:=Lib.hid (show ¬ SurdOk L from fun ⟨T',h'⟩=>by
      obtain ⟨q',m2,h1,_,h3⟩:=HST.out.1 ⟨_,h'.take (j+1+1)⟩
      have h4:=(h1.uniq HQM.out).2
      subst h4
      exact absurd (hBn.out.2 h3) (by decide))
     clear HST hBn
     go_wp2_with fail
     go_ret
     exact ⟨7,rfl,Lib.hid ⟨fun h=>absurd h (by decide),fun h=>absurd h HNC.out⟩,hb5⟩
   ·have hge:¬ o < 0:=by rw [← HO.out];unfold Lib.compareInt;rw [if_neg (by omega)];split<;>omega
    have hge':0≤o:=by omega
    have HNC:=Lib.hid (show ¬ SurdOk L from fun ⟨T',h'⟩=>by
     obtain ⟨q',m2,h1,h2,_⟩:=HST.out.1 ⟨_,h'.take (j+1+1)⟩
     have h3:=(h1.uniq HQM.out).2
     have h4:=h2 (by omega)
     rw [Nat.add_sub_cancel,HM'.out] at h4
     omega)
    clear HST HO hmm
    go_wp2_with fail
    go_ret
    exact ⟨10,rfl,Lib.hid ⟨fun h=>absurd h (by decide),fun h=>absurd h HNC.out⟩,hR.2⟩
  ·have e:k=L.length:=by omega
   subst e
   have HYC:=Lib.hid (show SurdOk L from by have:=hT.out;rwa [List.take_length] at this)
   go_wp2_with fail
   go_ret
   exact ⟨0,rfl,Lib.hid ⟨fun _=>HYC.out,fun _=>rfl⟩,hB⟩
end Go.Proofs.YthihcjgmlbnapaaGreatDoor
namespace Go.Proofs.YthihcjgmlbnapaaGreatDoor
open Go.RowKit
end Go.Proofs.YthihcjgmlbnapaaGreatDoor
namespace Go.Proofs.YthihcjgmlbnapaaGreatDoor
open Go
def ReadTo (s:List UInt8) (L:TTexts) (r:List UInt8):Prop:=∀ L' T,SurdIs L' T→T≠[]→s=textT true T→L=L'.take L.length∧L.length≤T.length∧r=textT (decide (L.length=0)) (T.drop L.length)
theorem ReadTo.start (s:List UInt8):ReadTo s [] s:=fun L' T _ _ h=>⟨by simp,by simp,by simpa using h⟩
theorem drop_of {T:Terms} {j:Nat} (h:T.drop j≠[]):j < T.length∧T.drop j=((tq T j).1,(tq T j).2)::T.drop (j+1):=by
 have hj:j < T.length:=by
  refine Nat.lt_of_not_le fun h2=>h (List.drop_eq_nil_of_le h2)
 refine ⟨hj,?_⟩
 have e:tq T j=T[j]:=by simp [tq,hj]
 rw [e]
 exact List.drop_eq_getElem_cons hj
theorem ReadTo.step {s r c x rest:List UInt8} {L:TTexts} {cb xb:ByteArray} (h:ReadTo s L r) (hr:r≠[]) (ht:termF r (decide (L.length=0))=some (c,x,rest)) (hc:cb.data.toList=c) (hx:xb.data.toList=x) :
  ReadTo s (L++[(cb,xb)]) rest:=by
 intro L' T h1 h2 h3
 obtain ⟨e1,e2,e3⟩:=h L' T h1 h2 h3
 have hd:T.drop L.length≠[]:=fun h0=>hr (by rw [e3,h0];unfold textT;rfl)
 obtain ⟨hj,hd2⟩:=drop_of hd
 rw [e3,hd2,termF_textT] at ht
 cases ht
 have hl:(L++[(cb,xb)]).length=L.length+1:=by simp
 have hj':L.length < L'.length:=by rw [← h1.same];exact hj
 rw [hl]
 refine ⟨?_,by omega,?_⟩
 ·rw [List.take_succ_eq_append_getElem hj',← e1]
  congr 1
  have hok:=h1.ok _ hj'
  have g:tt L' L.length=L'[L.length]:=by simp [tt,hj']
  rw [g] at hok
  have e4:cb=L'[L.length].1:=ByteArray.ext (Array.toList_inj.1 (hc.trans hok.c.symm))
  have e5:xb=L'[L.length].2:=ByteArray.ext (Array.toList_inj.1 (hx.trans hok.r.symm))
  rw [e4,e5]
 ·simp
theorem ReadTo.all {s:List UInt8} {L L':TTexts} {T:Terms} (h:ReadTo s L []) (h1:SurdIs L' T) (h2:T≠[]) (h3:s=textT true T):L=L':=by
 obtain ⟨e1,e2,e3⟩:=h L' T h1 h2 h3
 have hd:T.drop L.length=[]:=by
  cases hx:T.drop L.length with
  | nil=>rfl
  | cons a l=>rw [hx] at e3;exact absurd e3.symm textT_ne
 have hl:=List.drop_eq_nil_iff.1 hd
 rw [e1,List.take_of_length_le (by rw [← h1.same];omega)]
end Go.Proofs.YthihcjgmlbnapaaGreatDoor
namespace Go.Proofs.YthihcjgmlbnapaaGreatDoor
open Go.RowKit
theorem rowKpB {W W':World} {B:Nat} {e:TypeId} {size n:Nat} {v:Value} {xs:List Value} (h:W.ownsRow B e size v n xs) (hB:Below W.heap.size W W'):W'.ownsRow B e size v n xs:=by
 refine ⟨h.1,?_⟩
 rcases h.2 with h1|⟨g',cap',cur,h1,h2,h3,h4⟩
 ·exact .inl h1
 ·exact .inr ⟨g',cap',cur,h1,h2,(hB.block g' (Array.getElem?_eq_some_iff.1 h3).1).trans h3,h4⟩
end Go.Proofs.YthihcjgmlbnapaaGreatDoor
namespace Go.Proofs.YthihcjgmlbnapaaGreatDoor
open Go
theorem sqN_iff (n:Nat):isSqN n=true↔∃ r,r * r=n:=by
 unfold isSqN
 rw [decide_eq_true_eq]
 exact ⟨fun h=>⟨_,h⟩,fun ⟨r,h⟩=>by rw [← h,rootN_sq]⟩
theorem sq_coprime {x y u:Nat} (h:x * y=u * u) (hc:Nat.gcd x y=1):∃ r,r * r=x:=by
 refine ⟨Nat.gcd x u,?_⟩
 have h1:Nat.gcd x u * Nat.gcd x u=Nat.gcd (x * x) (u * u):=by
  have h:(Nat.gcd x u) ^ 2=Nat.gcd (x ^ 2) (u ^ 2):=Nat.pow_gcd_pow.symm
  rw [Nat.pow_two,Nat.pow_two,Nat.pow_two] at h
  exact h
 rw [h1,← h,Nat.gcd_mul_left,hc,Nat.mul_one]
theorem ratio_iff {a b:Nat} (ha:0 < a) (hb:0 < b):ratioB a b=true↔∃ s,s * s=a * b:=by
 have hg:0 < Nat.gcd a b:=Nat.gcd_pos_of_pos_left _ ha
 have ea:a / Nat.gcd a b * Nat.gcd a b=a:=Nat.div_mul_cancel (Nat.gcd_dvd_left _ _)
 have eb:b / Nat.gcd a b * Nat.gcd a b=b:=Nat.div_mul_cancel (Nat.gcd_dvd_right _ _)
 have hco:Nat.gcd (a / Nat.gcd a b) (b / Nat.gcd a b)=1:=Nat.gcd_div_gcd_div_gcd_of_pos_left ha
 unfold ratioB
 rw [Bool.and_eq_true,sqN_iff,sqN_iff]
 generalize Nat.gcd a b=g at *
 generalize a / g=x at *
 generalize b / g=y at *
 constructor
 ·rintro ⟨⟨r,hr⟩,⟨s,hs⟩⟩
  refine ⟨g * (r * s),?_⟩
  rw [← ea,← eb,← hr,← hs]
  simp only [Nat.mul_assoc,Nat.mul_left_comm,Nat.mul_comm]
 ·rintro ⟨t,ht⟩
  have h1:t * t=g * g * (x * y):=by
   rw [ht]
   conv=>lhs;rw [← ea,← eb]
   simp only [Nat.mul_assoc,Nat.mul_left_comm,Nat.mul_comm]
  have hd:g ∣ t:=by
   have h2:g ^ 2 ∣ t ^ 2:=⟨x * y,by rw [Nat.pow_two,Nat.pow_two];exact h1⟩
   exact (Nat.pow_dvd_pow_iff (by decide)).1 h2
  obtain ⟨u,rfl⟩:=hd
  have h2:x * y=u * u:=by
   have h3:g * g * (u * u)=g * g * (x * y):=by
    rw [← h1]
    simp only [Nat.mul_assoc,Nat.mul_left_comm,Nat.mul_comm]
   exact (Nat.eq_of_mul_eq_mul_left (Nat.mul_pos hg hg) h3).symm
  exact ⟨sq_coprime h2 hco,sq_coprime (show y * x=u * u by rw [Nat.mul_comm y x];exact h2) (show Nat.gcd y x=1 by rw [Nat.gcd_comm y x];exact hco)⟩
theorem ratio_trans {a b c:Nat} (ha:0 < a) (hb:0 < b) (hc:0 < c) (h1:ratioB a b=true) (h2:ratioB b c=true):ratioB a c=true:=by
 obtain ⟨s,hs⟩:=(ratio_iff ha hb).1 h1
 obtain ⟨t,ht⟩:=(ratio_iff hb hc).1 h2
 refine (ratio_iff ha hc).2 ?_
 -- (s t)^2=a b b c
 have h3:(s * t) * (s * t)=b * b * (a * c):=by
  have:(s * t) * (s * t)=(s * s) * (t * t):=by simp only [Nat.mul_assoc,Nat.mul_left_comm,Nat.mul_comm]
  rw [this,hs,ht]
  simp only [Nat.mul_assoc,Nat.mul_left_comm,Nat.mul_comm]
 have hd:b ∣ s * t:=by
  have h4:b ^ 2 ∣ (s * t) ^ 2:=⟨a * c,by rw [Nat.pow_two,Nat.pow_two];exact h3⟩
  exact (Nat.pow_dvd_pow_iff (by decide)).1 h4
 obtain ⟨u,hu⟩:=hd
 refine ⟨u,?_⟩
 rw [hu] at h3
 have h5:b * b * (u * u)=b * b * (a * c):=by
  rw [← h3]
  simp only [Nat.mul_assoc,Nat.mul_left_comm,Nat.mul_comm]
 exact Nat.eq_of_mul_eq_mul_left (Nat.mul_pos hb hb) h5
def NrmN (n:Nat):Prop:=1≤n∧(n=1∨normalN n=(1,n))
def KAp (K:Terms):Prop:=(∀ x ∈ K,NrmN x.2)∧K.Pairwise fun x y=>ratioB x.2 y.2=false
theorem tq_at {T:Terms} {i:Nat} (h:i < T.length):tq T i=T[i]:=by simp [tq,h]
theorem KAp.nil:KAp []:=⟨(fun _ h=>nomatch h),List.Pairwise.nil⟩
theorem KAp.append {K:Terms} (h:KAp K) {x:Rat} {n:Nat} (hn:NrmN n) (hf:∀ i,i < K.length→ratioB n (tq K i).2=false):KAp (K++[(x,n)]):=by
 refine ⟨fun y hy=>?_,List.pairwise_append.2 ⟨h.2,List.pairwise_singleton _ _,fun a ha b hb=>?_⟩⟩
 ·rcases List.mem_append.1 hy with h1|h1
  ·exact h.1 y h1
  ·rw [List.mem_singleton.1 h1];exact hn
 ·rw [List.mem_singleton.1 hb]
  obtain ⟨i,hi,rfl⟩:=List.getElem_of_mem ha
  have:=hf i hi
  rw [tq_at hi] at this
  rw [ratioB_comm];exact this
theorem apart_of {m l c:Nat} (hm:1≤m) (hl:1≤l) (hc:1≤c) (hb:ratioB m l=true) (h:ratioB l c=false):ratioB m c=false:=by
 rcases hx:ratioB m c with _|_
 ·rfl
 ·rw [ratioB_comm] at hb
  rw [ratio_trans hl hm hc hb hx] at h
  cases h
theorem KAp.set {K:Terms} (h:KAp K) {i:Nat} {q:Rat} {m:Nat} (hi:i < K.length) (hm:NrmN m) (hb:ratioB m (tq K i).2=true):KAp (K.set i (q,m)):=by
 have hl:=(h.1 _ (List.getElem_mem hi)).1
 rw [tq_at hi] at hb
 refine ⟨fun y hy=>?_,List.pairwise_iff_getElem.2 fun a b ha hb2 hab=>?_⟩
 ·rcases List.mem_or_eq_of_mem_set hy with h1|rfl
  ·exact h.1 y h1
  ·exact hm
 ·rw [List.length_set] at ha hb2
  have hp:=List.pairwise_iff_getElem.1 h.2
  have h1:=hp a b ha hb2 hab
  have na:=(h.1 _ (List.getElem_mem ha)).1
  have nb:=(h.1 _ (List.getElem_mem hb2)).1
  rw [List.getElem_set,List.getElem_set]
  by_cases e1:i=a
  ·subst e1
   rw [if_pos rfl,if_neg (by omega)]
   exact apart_of hm.1 hl nb hb h1
  ·rw [if_neg e1]
   by_cases e2:i=b
   ·subst e2
    rw [if_pos rfl,ratioB_comm]
    rw [ratioB_comm] at h1
    exact apart_of hm.1 hl na hb h1
   ·rw [if_neg e2];exact h1
theorem KAp.sub {K S:Terms} (h:KAp K) (hs:S.Sublist K):KAp S:=⟨fun x hx=>h.1 x (hs.subset hx),h.2.sublist hs⟩
theorem KAp.perm {K T:Terms} (h:KAp K) (hp:T.Perm K):KAp T:=⟨fun x hx=>h.1 x (hp.mem_iff.1 hx),(hp.pairwise_iff fun {x y} hx=>by rw [ratioB_comm];exact hx).2 h.2⟩
def Asc (T:Terms):Prop:=T.Pairwise fun x y=>x.2≤y.2
theorem ratio_refl {n:Nat} (h:1≤n):ratioB n n=true:=(ratio_iff h h).2 ⟨n,rfl⟩
theorem ResT.surd {L:TTexts} {T:Terms} (h:ResT L T) (ha:Asc T) (hk:KAp T):SurdIs L T:=by
 have hi:∀ {k},k < L.length→k < T.length:=fun {k} hk=>by rw [h.same];exact hk
 refine ⟨Nat.le_trans h.len (by decide),h.same,fun k hk2=>?_,fun k hk2=>?_,fun i k hik hk2=>?_⟩
 ·have hd:=h.cz k hk2
  unfold longD at hd
  have hn:=hk.1 _ (List.getElem_mem (hi hk2))
  rw [← tq_at (hi hk2)] at hn
  exact ⟨h.c k hk2,h.r k hk2,h.q0 k hk2,by omega,by omega,h.m1 k hk2,h.rn k hk2,hn.2⟩
 ·have h1:=List.pairwise_iff_getElem.1 ha k (k+1) (hi (by omega)) (hi hk2) (by omega)
  have h2:=List.pairwise_iff_getElem.1 hk.2 k (k+1) (hi (by omega)) (hi hk2) (by omega)
  have h3:=(hk.1 _ (List.getElem_mem (hi hk2))).1
  rw [tq_at (hi (by omega)),tq_at (hi hk2)]
  rcases Nat.lt_or_eq_of_le h1 with h4|h4
  ·exact h4
  ·rw [h4,ratio_refl h3] at h2;cases h2
 ·have h2:=List.pairwise_iff_getElem.1 hk.2 i k (hi (by omega)) (hi hk2) hik
  rw [tq_at (hi hk2),tq_at (hi (by omega)),ratioB_comm]
  exact h2
end Go.Proofs.YthihcjgmlbnapaaGreatDoor
