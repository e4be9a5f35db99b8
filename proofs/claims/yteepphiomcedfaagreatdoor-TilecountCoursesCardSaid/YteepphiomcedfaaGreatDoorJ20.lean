/- Joined texts: WRatL, WRatM, WRatN, WFlowL. -/
import Derived.Test.YteepphiomcedfaaGreatDoorJ19
import Derived.Test.YteepphiomcedfaaGreatDoorJ04
import Derived.Test.YteepphiomcedfaaGreatDoorJ18
set_option maxRecDepth 100000
set_option linter.unusedVariables false
set_option linter.unusedSimpArgs false
set_option maxHeartbeats 6400000
namespace Go.Proofs.YteepphiomcedfaaGreatDoor
open Go.RowKit
theorem Qnumber_ok (n d:Int) (s t:ByteArray) (w:World) (hG:Glo w) (hs:s.data.toList=Lib.itoa n) (hx:Fit n) (ht:t.data.toList=Lib.itoa d) (hy:Fit d) (hd:0 < d) :
  Calls Tryz.prog 82 #[.string s,.string t] w (RetN (Rat.divInt n d) w):=by
 have HS:=Lib.hid hs
 have HT:=Lib.hid ht
 have HG:=Lib.hid hG
 have HX:=Lib.hid hx
 have HY:=Lib.hid hy
 have hp:Lib.hasPrefix t.data.toList [45]=false:=by
  rw [ht]
  rcases itoa_cases d with ⟨h,_⟩|⟨_,e⟩
  ·omega
  ·rw [e]
   have h1:=decDigits_no45 d.natAbs []
   rw [List.append_nil] at h1
   cases hd':Lib.decDigits d.natAbs with
   | nil=>rfl
   | cons a l =>
    rw [hd'] at h1
    simp only [Lib.hasPrefix,List.isPrefixOf,Bool.and_true]
    simpa using fun e=>h1 (by simp [← e])
 have HP:=Lib.hid hp
 obtain ⟨a,b,g,hg,g0,ha,hb,hb0,hnum,hden,q1,q2⟩:=divInt_parts n d hd
 have hg':Int.gcd n d=g:=by rw [hg];simp only [Int.gcd];congr 1;omega
 have e1:n / (g:Int)=a:=by rw [ha];exact Int.mul_ediv_cancel _ (by omega)
 have e2:d / (g:Int)=b:=by rw [hb];exact Int.mul_ediv_cancel _ (by omega)
 have r1:n % (g:Int)=0:=by rw [ha];exact Int.mul_emod_left _ _
 have gd:g≤d.natAbs:=by
  have:(g:Int) ∣ d:=⟨b,by rw [Int.mul_comm];exact hb⟩
  have:=Int.le_of_dvd hd this
  omega
 have han:a.natAbs≤n.natAbs:=by rw [← q1,Int.natAbs_tdiv];exact Nat.div_le_self _ _
 have hbn:b.natAbs≤d.natAbs:=by rw [← q2,Int.natAbs_tdiv];exact Nat.div_le_self _ _
 have FG:=Lib.hid (fit_le (a:=(g:Int)) (by omega) hy)
 have FA:=Lib.hid (fit_le han hx)
 have FB:=Lib.hid (fit_le hbn hy)
 have E1:=Lib.hid e1
 have E2:=Lib.hid e2
 have R1:=Lib.hid r1
 have HGG:=Lib.hid hg'
 have HN:=Lib.hid hnum
 have HD:=Lib.hid hden
 have HB0:=Lib.hid hb0
 have G0:=Lib.hid g0
 clear hs ht hG hp hg g0 ha hb hb0 hnum hden q1 q2 hg' e1 e2 r1 gd han hbn hx hy
 go_enter Tryz.func82,Tryz.ntmps82
 go_wp2_with fail
 refine (Tryz.strings_HasPrefix _ _ _).mono ?_
 rintro e w1 ⟨rfl,hw1⟩
 rw [hw1,show Lib.hasPrefix t.data.toList (ByteArray.mk #[45]).data.toList=false from HP.out]
 clear hw1
 go_wp2_with fail
 refine (IGcd_ok n d s t _ HG.out HS.out HX.out HT.out HY.out).mono ?_
 intro e w2 hrx
 obtain ⟨c,hc,rfl,hB2⟩:=hrx.1 (by rw [HGG.out];exact FG.out)
 rw [HGG.out] at hc
 have HC:=Lib.hid hc
 clear hc hrx
 by_cases hg1:g=1
 ·have hz1:=eq_of_list (s:=c) (m:=[49]) (by rw [HC.out,hg1];exact itoa_one)
  have NH:Hid (s.data.toList=Lib.itoa a):=Lib.hid (by rw [HS.out,← E1.out,hg1];congr 1;omega)
  have DH:Hid (t.data.toList=Lib.itoa b):=Lib.hid (by rw [HT.out,← E2.out,hg1];congr 1;omega)
  clear hg1
  by_cases hb1:b=1
  ·have hz:=eq_of_list (s:=t) (m:=[49]) (by rw [DH.out,hb1];exact itoa_one)
   have HT2:Hid (ratText (Rat.divInt n d)=Lib.itoa a):=Lib.hid (by
    have h2:=HD.out
    rw [ratText,if_pos (by omega),HN.out])
   clear hb1
   go_wp2_with fail
   go_ret2
   exact ⟨s,by rw [NH.out,HT2.out],rfl,qbl⟩
  ·have hz:=ne_of_list (s:=t) (m:=[49]) DH.out (itoa_ne1 hb1)
   have HT2:Hid (ratText (Rat.divInt n d)=Lib.itoa a++47::Lib.itoa b):=Lib.hid (by
    have h2:=HD.out
    rw [ratText,if_neg (by omega),HN.out,← h2,Lib.itoa_nonneg])
   have l1:=fit_size NH.out FA.out
   have l2:=fit_size DH.out FB.out
   clear hb1
   go_wp2_with fail
   go_ret2
   refine ⟨_,?_,rfl,qbl⟩
   rw [HT2.out,← NH.out,← DH.out]
   simp
 ·have hz1:=ne_of_list (s:=c) (m:=[49]) HC.out (itoa_ne1 (by omega))
  clear hg1
  go_wp2_with fail
  refine (IDivide_ok n g s c _ (HG.out.below qbl) HS.out HX.out HC.out FG.out (by have:=G0.out;omega) (.inl R1.out)).mono ?_
  rintro e w3 ⟨s',r',hs',hr',rfl,hB3⟩
  have NH:Hid (s'.data.toList=Lib.itoa a):=Lib.hid (by rw [hs',E1.out])
  clear hs' hr'
  go_wp2_with fail
  refine (IDivide_ok d g t c _ (HG.out.below qbl) HT.out HY.out HC.out FG.out (by have:=G0.out;omega) (.inr (by omega))).mono ?_
  rintro e w4 ⟨t',r'',ht',hr'',rfl,hB4⟩
  have DH:Hid (t'.data.toList=Lib.itoa b):=Lib.hid (by rw [ht',E2.out])
  clear ht' hr''
  by_cases hb1:b=1
  ·have hz:=eq_of_list (s:=t') (m:=[49]) (by rw [DH.out,hb1];exact itoa_one)
   have HT2:Hid (ratText (Rat.divInt n d)=Lib.itoa a):=Lib.hid (by
    have h2:=HD.out
    rw [ratText,if_pos (by omega),HN.out])
   clear hb1
   go_wp2_with fail
   go_ret2
   exact ⟨s',by rw [NH.out,HT2.out],rfl,qbl⟩
  ·have hz:=ne_of_list (s:=t') (m:=[49]) DH.out (itoa_ne1 hb1)
   have HT2:Hid (ratText (Rat.divInt n d)=Lib.itoa a++47::Lib.itoa b):=Lib.hid (by
    have h2:=HD.out
    rw [ratText,if_neg (by omega),HN.out,← h2,Lib.itoa_nonneg])
   have l1:=fit_size NH.out FA.out
   have l2:=fit_size DH.out FB.out
   clear hb1
   go_wp2_with fail
   go_ret2
   refine ⟨_,?_,rfl,qbl⟩
   rw [HT2.out,← NH.out,← DH.out]
   simp
theorem crossedL_ok (xn yn:Int) (xd yd:Nat) (a b c d:ByteArray) (w:World) (hG:Glo w) (ha:a.data.toList=Lib.itoa xn) (hb:b.data.toList=Lib.decDigits xd) (hc:c.data.toList=Lib.itoa yn) (hd:d.data.toList=Lib.decDigits yd)
  (fa:Fit xn) (fb:Fit (xd:Int)) (fc:Fit yn) (fd:Fit (yd:Int)) (f1:Fit (xn * yd)) (f2:Fit (yn * xd)) :
  Calls Tryz.prog 73 #[.agg #[.string a,.string b],.agg #[.string c,.string d]] w (RetC (xn * yd) (yn * xd) w):=by
 rw [← itoa_natCast] at hb hd
 have HA:=Lib.hid ha
 have HB:=Lib.hid hb
 have HC:=Lib.hid hc
 have HD:=Lib.hid hd
 have HG:=Lib.hid hG
 clear hG ha hb hc hd
 go_enter Tryz.func73,Tryz.ntmps73
 go_wp2_with fail
 refine (Imul_ok xn yd a d _ (HG.out.below qbl) HA.out fa HD.out fd).mono ?_
 intro e w1 hrx
 obtain ⟨r,hr,rfl,hB1⟩:=hrx.1 f1
 have HR:=Lib.hid hr
 clear hr hrx
 have c1:w1.cell? ⟨w.heap.size,1,none⟩=some (.string b):=keep hB1 (by simp [go_sem])
 have c2:w1.cell? ⟨w.heap.size+1,0,none⟩=some (.string c):=keep hB1 (by simp [go_sem])
 have z1:=lt_of_cell c1
 have z2:=lt_of_cell c2
 have hB1':Below w.heap.size w w1:=qbl
 go_wp2_with fail
 refine (Imul_ok yn xd c b _ (HG.out.below qbl) HC.out fc HB.out fb).mono ?_
 intro e w2 hrx
 obtain ⟨s,hs,rfl,hB2⟩:=hrx.1 f2
 have HS:=Lib.hid hs
 clear hs hrx
 have hB2':Below w.heap.size w w2:=qbl
 go_wp2_with fail
 go_ret3
 exact ⟨r,s,HR,HS,rfl,qbl⟩
theorem divL_ok {xn yn:Int} {xd yd:Nat} (a b c d:ByteArray) (w:World) (hG:Glo w) (ha:a.data.toList=Lib.itoa xn) (hb:b.data.toList=Lib.decDigits xd) (hc:c.data.toList=Lib.itoa yn) (hd:d.data.toList=Lib.decDigits yd)
  (fa:Fit xn) (fb:Fit (xd:Int)) (fc:Fit yn) (fd:Fit (yd:Int)) (f1:Fit (xn * yd)) (f2:Fit (yn * xd)) (hp:0 < yn * xd) :
  Calls Tryz.prog 102 #[.agg #[.string a,.string b],.agg #[.string c,.string d]] w (RetN (Rat.divInt (xn * yd) (yn * xd)) w):=by
 have hy0:yn≠0:=by intro h;rw [h] at hp;simp at hp
 have hne:(c.toList == [48])=false:=by
  rw [Lib.toList_data,hc];simpa using itoa_ne0 hy0
 have HA:=Lib.hid ha
 have HB:=Lib.hid hb
 have HC:=Lib.hid hc
 have HD:=Lib.hid hd
 have HG:=Lib.hid hG
 clear hG ha hb hc hd hy0
 go_enter Tryz.func102,Tryz.ntmps102
 go_wp2_with fail
 refine (crossedL_ok xn yn xd yd a b c d _ (HG.out.below qbl) HA.out HB.out HC.out HD.out fa fb fc fd f1 f2).mono ?_
 rintro e w1 ⟨r,s,hr,hs,rfl,hB1⟩
 have hb1:Below w.heap.size w w1:=qbl
 clear hB1
 go_wp2_with fail
 refine (Qnumber_ok (xn * yd) (yn * xd) r s _ (HG.out.below qbl) hr.out f1 hs.out f2 hp).mono ?_
 rintro e w3 ⟨v,hv,rfl,hB3⟩
 have HV:=Lib.hid hv
 have hb3:Below w.heap.size w w3:=qbl
 clear hv hB3
 go_wp2_with fail
 go_ret2
 exact ⟨v,HV.out,rfl,hb3⟩
def CombOk (G:Nat) (z:Int) (x y:Int):Prop:=∀ (s t:ByteArray) (w:World),Glo w→s.data.toList=Lib.itoa x→t.data.toList=Lib.itoa y→Calls Tryz.prog G #[.string s,.string t] w (RetI z w)
theorem combL_ok {xn yn z:Int} {xd yd:Nat} (G bx:Nat) (a b c d:ByteArray) (w:World) (hG:Glo w) (hbx:w.cell? ⟨bx,0,none⟩=some (.func (.func G) #[] #[])) (hE:∀ args w,(callFunc G args).run Tryz.prog w=.ok (.enter G args) w) (ha:a.data.toList=Lib.itoa xn) (hb:b.data.toList=Lib.decDigits xd) (hc:c.data.toList=Lib.itoa yn) (hd:d.data.toList=Lib.decDigits yd)
  (fa:Fit xn) (fb:Fit (xd:Int)) (fc:Fit yn) (fd:Fit (yd:Int)) (f1:Fit (xn * yd)) (f2:Fit (yn * xd)) (f3:Fit z) (f4:Fit ((xd:Int) * yd)) (hx:0 < xd) (hy:0 < yd) (hC:CombOk G z (xn * yd) (yn * xd)) :
  Calls Tryz.prog 124 #[.agg #[.string a,.string b],.agg #[.string c,.string d],.pointer (some ⟨bx,0,none⟩)] w (RetN (Rat.divInt z ((xd:Int) * yd)) w):=by
 have HA:=Lib.hid ha
 have HB:=Lib.hid hb
 have HB':Hid (b.data.toList=Lib.itoa (xd:Int)):=Lib.hid (by rw [itoa_natCast];exact hb)
 have HC:=Lib.hid hc
 have HD:=Lib.hid hd
 have HD':Hid (d.data.toList=Lib.itoa (yd:Int)):=Lib.hid (by rw [itoa_natCast];exact hd)
 have HG:=Lib.hid hG
 have HCO:=Lib.hid hC
 have hp:0 < (xd:Int) * yd:=Int.mul_pos (by omega) (by omega)
 have zx:=lt_of_cell hbx
 clear hG ha hb hc hd hC
 go_enter Tryz.func124,Tryz.ntmps124
 go_wp2_with fail
 refine (crossedL_ok xn yn xd yd a b c d _ (HG.out.below qbl) HA.out HB.out HC.out HD.out fa fb fc fd f1 f2).mono ?_
 rintro e w1 ⟨u,v,hu,hv,rfl,hB1⟩
 have hb1:Below w.heap.size w w1:=qbl
 have k1:=keep hb1 hbx
 have c1:w1.cell? ⟨w.heap.size,1,none⟩=some (.string b):=keep hB1 (by simp [go_sem])
 have c2:w1.cell? ⟨w.heap.size+1,1,none⟩=some (.string d):=keep hB1 (by simp [go_sem])
 clear hB1
 go_wp2_with fail
 refine (HCO.out u v _ (HG.out.below hb1) hu.out hv.out).mono ?_
 rintro e w2 ⟨r,hr,rfl,hB2⟩
 have HR:=Lib.hid hr
 have hb2:Below w.heap.size w w2:=below_trans' hb1 hB2
 have c1':=keep hB2 c1
 have c2':=keep hB2 c2
 clear hr hB2
 go_wp2_with fail
 refine (Imul_ok xd yd b d _ (HG.out.below qbl) HB'.out fb HD'.out fd).mono ?_
 intro e w3 hrx
 obtain ⟨s,hs,rfl,hB3⟩:=hrx.1 f4
 have HS:=Lib.hid hs
 have hb3:Below w.heap.size w w3:=below_trans' hb2 hB3
 clear hs hB3 hrx
 go_wp2_with fail
 refine (Qnumber_ok z ((xd:Int) * yd) r s _ (HG.out.below qbl) HR.out f3 HS.out f4 hp).mono ?_
 rintro e w4 ⟨q,hq,rfl,hB4⟩
 have HQ:=Lib.hid hq
 have hb4:Below w.heap.size w w4:=below_trans' hb3 hB4
 clear hq hB4
 go_wp2_with fail
 go_ret2
 exact ⟨q,HQ.out,rfl,hb4⟩
end Go.Proofs.YteepphiomcedfaaGreatDoor
namespace Go.Proofs.YteepphiomcedfaaGreatDoor
open Go.RowKit
def Sz (k:Nat) (q:Rat):Prop:=q.num.natAbs < 10 ^ k∧q.den < 10 ^ k
theorem pow300 {k n:Nat} (h:n < 10 ^ k) (hk:k≤300):n < 10 ^ 300:=Nat.lt_of_lt_of_le h (pow10_le (a:=k) (b:=300) hk)
theorem Sz.fn {k:Nat} {q:Rat} (h:Sz k q) (hk:k≤300):Fit q.num:=fit_of_lt (pow300 h.1 hk)
theorem Sz.fd {k:Nat} {q:Rat} (h:Sz k q) (hk:k≤300):Fit (q.den:Int):=fit_of_lt (pow300 (by simpa using h.2) hk)
theorem mul_lt {a b:Nat} {x y:Int} (hx:x.natAbs < 10 ^ a) (hy:y.natAbs < 10 ^ b):(x * y).natAbs < 10 ^ (a+b):=by
 rw [Int.natAbs_mul,Nat.pow_add]
 exact Nat.mul_lt_mul'' hx hy
theorem fit_mul {a b:Nat} {x y:Int} (hx:x.natAbs < 10 ^ a) (hy:y.natAbs < 10 ^ b) (h:a+b≤300):Fit (x * y):=fit_of_lt (pow300 (mul_lt hx hy) h)
theorem sz_divInt {n d:Int} {k:Nat} (hd:0 < d) (hn:n.natAbs < 10 ^ k) (hk:d.natAbs < 10 ^ k):Sz k (Rat.divInt n d):=by
 obtain ⟨a,b,g,hg,g0,ha,hb,hb0,hnum,hden,q1,q2⟩:=divInt_parts n d hd
 refine ⟨?_,?_⟩
 ·rw [hnum,← q1,Int.natAbs_tdiv]
  exact Nat.lt_of_le_of_lt (Nat.div_le_self _ _) hn
 ·have h:b.natAbs≤d.natAbs:=by rw [← q2,Int.natAbs_tdiv];exact Nat.div_le_self _ _
  omega
theorem rat_add (p q:Rat):Rat.divInt (p.num * q.den+q.num * p.den) ((p.den:Int) * q.den)=p+q:=by rw [Rat.add_def',← Rat.divInt_ofNat];simp
theorem rat_mul (p q:Rat):Rat.divInt (p.num * q.num) ((p.den:Int) * q.den)=p * q:=by rw [Rat.mul_def',← Rat.divInt_ofNat];simp
theorem rat_div (p q:Rat):Rat.divInt (p.num * q.den) (q.num * p.den)=p / q:=by
 rw [Int.mul_comm q.num,Rat.div_def,Rat.inv_def,← Rat.num_divInt_den p,Rat.divInt_mul_divInt,Rat.num_divInt_den]
theorem den_nat (q:Rat):((q.den:Int)).natAbs=q.den:=by simp
theorem den_pos' (p q:Rat):0 < (p.den:Int) * q.den:=Int.mul_pos (by have:=p.den_pos;omega) (by have:=q.den_pos;omega)
theorem sum_lt {a b:Nat} {p q:Rat} (hp:Sz a p) (hq:Sz b q):(p.num * q.den+q.num * p.den).natAbs < 10 ^ (a+b+1):=by
 have h1:=mul_lt (x:=p.num) (y:=(q.den:Int)) hp.1 (by rw [den_nat];exact hq.2)
 have h2:=mul_lt (x:=q.num) (y:=(p.den:Int)) hq.1 (by rw [den_nat];exact hp.2)
 rw [Nat.add_comm b a] at h2
 rw [Nat.pow_succ]
 generalize p.num * (q.den:Int)=u at *
 generalize q.num * (p.den:Int)=v at *
 generalize (10:Nat) ^ (a+b)=P at *
 omega
theorem Sz.mono {a b:Nat} {q:Rat} (h:Sz a q) (hab:a≤b):Sz b q:=⟨Nat.lt_of_lt_of_le h.1 (Nat.pow_le_pow_right (by omega) hab),Nat.lt_of_lt_of_le h.2 (Nat.pow_le_pow_right (by omega) hab)⟩
theorem dens_lt {a b:Nat} {p q:Rat} (hp:Sz a p) (hq:Sz b q):((p.den:Int) * q.den).natAbs < 10 ^ (a+b):=mul_lt (by rw [den_nat];exact hp.2) (by rw [den_nat];exact hq.2)
theorem Sz.add {a b:Nat} {p q:Rat} (hp:Sz a p) (hq:Sz b q):Sz (a+b+1) (p+q):=by
 rw [← rat_add]
 exact sz_divInt (den_pos' p q) (sum_lt hp hq) (Nat.lt_of_lt_of_le (dens_lt hp hq) (Nat.pow_le_pow_right (by omega) (by omega)))
theorem Sz.mul {a b:Nat} {p q:Rat} (hp:Sz a p) (hq:Sz b q):Sz (a+b) (p * q):=by
 rw [← rat_mul]
 exact sz_divInt (den_pos' p q) (mul_lt hp.1 hq.1) (dens_lt hp hq)
theorem Sz.div {a b:Nat} {p q:Rat} (hp:Sz a p) (hq:Sz b q) (h0:0 < q.num):Sz (a+b) (p / q):=by
 rw [← rat_div]
 refine sz_divInt (Int.mul_pos h0 (by have:=p.den_pos;omega)) (mul_lt hp.1 (by rw [den_nat];exact hq.2)) ?_
 rw [Nat.add_comm]
 exact mul_lt hq.1 (by rw [den_nat];exact hp.2)
theorem ratText_len {k:Nat} {q:Rat} (h:Sz k q) (hk:k≤300) (h1:1≤k):(ratText q).length≤2 * k+2:=by
 have l1:=itoa_len_le (n:=q.num) (k:=k) h.1 h1
 have l2:(Lib.decDigits q.den).length≤k:=by rw [Lib.decDigits_length];exact nDigits_le_of_lt h.2 h1
 unfold ratText
 split
 ·omega
 ·rw [List.length_append,List.length_cons];omega
theorem txt_size {k:Nat} {q:Rat} {s:ByteArray} (hs:s.data.toList=ratText q) (h:Sz k q) (hk:k≤300):s.size≤602:=by
 have h1:=ratText_len (h.mono (show k≤300 by omega)) (by omega) (by omega)
 rw [← hs] at h1
 have e:s.size=s.data.toList.length:=rfl
 omega
theorem read_any {k:Nat} {q:Rat} (s:ByteArray) (w:World) (hG:Glo w) (hs:s.data.toList=ratText q) (hq:Sz k q) (hk:k≤300) :
  Calls Tryz.prog 72 #[.string s] w (RetP q (.int .i64 0) w):=by
 by_cases hsm:Small q
 ·exact read_small s w hG hs hsm
 ·have hsz:=txt_size hs hq hk
  have hno:natOf s.data.toList=none:=by rw [hs];exact natOf_big hsm
  have HS:=Lib.hid hs
  have HN:=Lib.hid hno
  have HG:=Lib.hid hG
  have FN:=hq.fn hk
  have FD:=hq.fd hk
  have hred:=q.reduced
  have HRED:Hid (((Int.gcd q.num (q.den:Int):Nat):Int)=1):=Lib.hid (by unfold Int.gcd;rw [den_nat];exact congrArg _ hred)
  clear hs hG hno hred
  go_enter Tryz.func72,Tryz.ntmps72
  go_wp2_with fail
  refine (cut_valid s _ (HG.out.below qbl) HS.out (by omega)).mono ?_
  rintro e w1 ⟨a,b,ha,hb,rfl,hB1⟩
  have c0:w1.cell? ⟨w.heap.size,0,none⟩=some (.string ⟨#[]⟩):=keep hB1 (by simp [go_sem])
  have c1:w1.cell? ⟨w.heap.size,1,none⟩=some (.string ⟨#[]⟩):=keep hB1 (by simp [go_sem])
  have g0:w1.frozen? ⟨w.heap.size,0,none⟩=false:=keepf hB1 (v:=.string ⟨#[]⟩) (by simp [go_sem]) (by simp [go_sem])
  have g1:w1.frozen? ⟨w.heap.size,1,none⟩=false:=keepf hB1 (v:=.string ⟨#[]⟩) (by simp [go_sem]) (by simp [go_sem])
  have z1:=lt_of_cell c0
  go_wp2_with fail
  refine (nativeOf_none s _ (by omega) HN.out).mono ?_
  rintro e w2 ⟨rfl,hB2⟩
  have c0':w2.cell? ⟨w.heap.size,0,none⟩=some (.string ⟨#[]⟩):=keep hB2 (keep (bw4 (bw0 _ _) _) c0)
  have c1':w2.cell? ⟨w.heap.size,1,none⟩=some (.string ⟨#[]⟩):=keep hB2 (keep (bw4 (bw0 _ _) _) c1)
  have g0':w2.frozen? ⟨w.heap.size,0,none⟩=false:=keepf hB2 (keep (bw4 (bw0 _ _) _) c0) (keepf (bw4 (bw0 _ _) _) c0 g0)
  have g1':w2.frozen? ⟨w.heap.size,1,none⟩=false:=keepf hB2 (keep (bw4 (bw0 _ _) _) c1) (keepf (bw4 (bw0 _ _) _) c1 g1)
  have c2:w2.cell? ⟨w1.heap.size,0,none⟩=some (.string a):=keep hB2 (by simp [go_sem])
  have c3:w2.cell? ⟨w1.heap.size,1,none⟩=some (.string b):=keep hB2 (by simp [go_sem])
  have z2:=lt_of_cell c0'
  have z3:=lt_of_cell c2
  have hx:=(trim_itoa q.num).1
  have ha':a.data.toList=Lib.itoa q.num:=ha.out
  rw [← ha'] at hx
  have HX:=Lib.hid hx
  have hbl:(b.size:Int)≤300:=by
   have h2:b.size=b.data.toList.length:=rfl
   have h3:(Lib.decDigits q.den).length≤300:=by have:=FD;unfold Fit at this;rwa [den_nat] at this
   rw [h2,hb.out]
   omega
  have hb2:Below w.heap.size w w2:=qbl
  have HBI:Hid (b.data.toList=Lib.itoa (q.den:Int)):=Lib.hid (by rw [itoa_natCast];exact hb.out)
  clear hx ha' c0 c1 g0 g1 hB1 hB2
  by_cases hd1:q.den=1
  ·have hb1:(b.toList == [49])=true:=eq_of_list (by rw [hb.out,hd1];exact one_digits)
   clear hd1
   go_wp2_with fail
   refine (trimPrefix_any a _ _ HX.out).mono ?_
   rintro e w3 ⟨o,ho,rfl,rfl⟩
   have hol:(o.size:Int)≤300:=by
    have h2:o.size=o.data.toList.length:=rfl
    have h3:=FN
    unfold Fit at h3
    rw [h2,ho.out];omega
   go_wp2_with fail
   refine bodyPost_ret (v:=.tuple #[.agg #[.string a,.string b],.int .i64 0]) (by simp [results,Tryz.results72,go_sem,c0',c1',c2,c3,z2,z3]) rfl ⟨a,b,ha,hb,rfl,qbl⟩
  ·have hb1:(b.toList == [49])=false:=ne_of_list (m:=[49]) HBI.out (itoa_ne1 (by omega))
   clear hd1
   go_wp2_with fail
   refine (trimPrefix_any a _ _ HX.out).mono ?_
   rintro e w3 ⟨o,ho,rfl,rfl⟩
   have hol:(o.size:Int)≤300:=by
    have h2:o.size=o.data.toList.length:=rfl
    have h3:=FN
    unfold Fit at h3
    rw [h2,ho.out];omega
   go_wp2_with fail
   refine (IGcd_ok q.num q.den a b _ (HG.out.below qbl) ha.out FN HBI.out FD).mono ?_
   intro e w4 hrx
   obtain ⟨g,hg,rfl,hB4⟩:=hrx.1 (by rw [HRED.out];exact fit18 (by decide))
   rw [HRED.out] at hg
   have hg1:(g.toList == [49])=true:=eq_of_list (by rw [hg];exact itoa_one)
   have d0:=keep hB4 (keep (bw4 (bw0 w2.heap.size w2) _) c0')
   have d1:=keep hB4 (keep (bw4 (bw0 w2.heap.size w2) _) c1')
   have d2:=keep hB4 (keep (bw4 (bw0 w2.heap.size w2) _) c2)
   have d3:=keep hB4 (keep (bw4 (bw0 w2.heap.size w2) _) c3)
   have f0:=keepf hB4 (keep (bw4 (bw0 w2.heap.size w2) _) c0') (keepf (bw4 (bw0 w2.heap.size w2) _) c0' g0')
   have f1:=keepf hB4 (keep (bw4 (bw0 w2.heap.size w2) _) c1') (keepf (bw4 (bw0 w2.heap.size w2) _) c1' g1')
   have y2:=lt_of_cell d0
   have y3:=lt_of_cell d2
   have hb4:Below w.heap.size w w4:=qbl
   clear hg hrx hB4 c0' c1' c2 c3 g0' g1' z2 z3
   go_wp2_with fail
   refine bodyPost_ret (v:=.tuple #[.agg #[.string a,.string b],.int .i64 0]) (by simp [results,Tryz.results72,go_sem,d0,d1,d2,d3,y2,y3]) rfl ⟨a,b,ha,hb,rfl,qbl⟩
end Go.Proofs.YteepphiomcedfaaGreatDoor
namespace Go.Proofs.YteepphiomcedfaaGreatDoor
open Go.RowKit
theorem quick_none2 {p:Rat} (F:Nat) (s t:ByteArray) (w:World) (hs:s.data.toList=ratText p) (hp:Small p) (ht:t.size≤1000) (h:natOf t.data.toList=none) :
  Calls Tryz.prog 61 #[.string s,.string t,.func (.func F) #[] #[]] w (RetB (.tuple #[.string ⟨#[]⟩,.bool false]) w):=by
 have HN:=Lib.hid h
 have HS:=Lib.hid hs
 clear h hs
 go_enter Tryz.func61,Tryz.ntmps61
 go_wp2_with fail
 refine (nativeOf_small s _ HS.out hp).mono ?_
 rintro e w1 ⟨rfl,hB1⟩
 go_wp2_with fail
 refine (nativeOf_none t _ ht HN.out).mono ?_
 rintro e w2 ⟨rfl,hB2⟩
 go_wp2_with fail
 go_ret2
 exact ⟨rfl,qbl⟩
theorem quick_no {k m:Nat} {p q:Rat} (F:Nat) (s t:ByteArray) (w:World) (hs:s.data.toList=ratText p) (ht:t.data.toList=ratText q) (hp:Sz k p) (hk:k≤300) (hq:Sz m q) (hm:m≤300) (hn:¬ (Small p∧Small q)) :
  Calls Tryz.prog 61 #[.string s,.string t,.func (.func F) #[] #[]] w (RetB (.tuple #[.string ⟨#[]⟩,.bool false]) w):=by
 by_cases h1:Small p
 ·exact quick_none2 F s t w hs h1 (by have:=txt_size ht hq hm;omega) (by rw [ht];exact natOf_big fun h=>hn ⟨h1,h⟩)
 ·exact quick_none F s t w (by have:=txt_size hs hp hk;omega) (by rw [hs];exact natOf_big h1)
theorem both_cap {p q r:Rat} (F bx:Nat) (v0:Value) (s t:ByteArray) (w:World) (hG:Glo w) (hbx:w.cell? ⟨bx,0,none⟩=some v0)
  (hs:∀ W,Glo W→Calls Tryz.prog 72 #[.string s] W (RetP p (.int .i64 0) W)) (ht:∀ W,Glo W→Calls Tryz.prog 72 #[.string t] W (RetP q (.int .i64 0) W))
  (hE:∀ args w,(callFunc F args).run Tryz.prog w=.ok (.enter F args) w)
  (hF:∀ (a b c d:ByteArray) W,Glo W→W.cell? ⟨bx,0,none⟩=some v0→a.data.toList=Lib.itoa p.num→b.data.toList=Lib.decDigits p.den→c.data.toList=Lib.itoa q.num→d.data.toList=Lib.decDigits q.den→Calls Tryz.prog F #[.agg #[.string a,.string b],.agg #[.string c,.string d],.pointer (some ⟨bx,0,none⟩)] W (RetN r W)) :
  Calls Tryz.prog 63 #[.string s,.string t,.func (.func F) #[] #[.pointer (some ⟨bx,0,none⟩)]] w (RetN r w):=by
 have HS:=Lib.hid hs
 have HT:=Lib.hid ht
 have HG:=Lib.hid hG
 have HF:=Lib.hid hF
 have HBX:=Lib.hid hbx
 clear hs ht hG hF hbx
 go_enter Tryz.func63,Tryz.ntmps63
 go_wp2_with fail
 refine (HS.out _ (HG.out.below qbl)).mono ?_
 rintro e w1 ⟨a,b,ha,hb,rfl,hB1⟩
 have hb1:Below w.heap.size w w1:=qbl
 clear hB1
 go_wp2_with fail
 refine (HT.out _ (HG.out.below qbl)).mono ?_
 rintro e w2 ⟨c,d,hc,hd,rfl,hB2⟩
 have hb2:Below w.heap.size w w2:=qbl
 have c1:w2.cell? ⟨w1.heap.size,0,none⟩=some (.string a):=keep hB2 (by simp [go_sem])
 have c2:w2.cell? ⟨w1.heap.size,1,none⟩=some (.string b):=keep hB2 (by simp [go_sem])
 have z1:=lt_of_cell c1
 clear hB2
 go_wp2_with fail
 refine (HF.out a b c d _ (HG.out.below qbl) (keep (show Below w.heap.size w _ from qbl) HBX.out) ha.out hb.out hc.out hd.out).mono ?_
 rintro e w3 ⟨v,hv,rfl,hB3⟩
 have HV:=Lib.hid hv
 have hb3:Below w.heap.size w w3:=qbl
 clear hv hB3
 go_wp2_with fail
 go_ret2
 exact ⟨v,HV.out,rfl,hb3⟩
theorem combined_any (G:Nat) (w:World) :
  Calls Tryz.prog 64 #[.func (.func G) #[] #[]] w fun e w'=>e=.returned (.func (.func 124) #[] #[.pointer (some ⟨w.heap.size,0,none⟩)])∧w'=w.alloc (.cells #[.func (.func G) #[] #[]] 100):=by
 have hmf:∀ (fn:Fn) (first cap:Array Value) (w:World),(Instr.makeFunc fn first cap).run Tryz.prog w=.ok (.func fn first cap) w:=fun _ _ _ _=>rfl
 go_enter Tryz.func64,Tryz.ntmps64
 go_wp2_with fail
 go_ret
 exact ⟨rfl,rfl⟩
theorem RAdd_ok {a b:Nat} {p q:Rat} (s t:ByteArray) (w:World) (hG:Glo w) (hs:s.data.toList=ratText p) (hp:Sz a p) (ht:t.data.toList=ratText q) (hq:Sz b q) (hab:a+b+1≤300) :
  Calls Tryz.prog 19 #[.string s,.string t] w (RetN (p+q) w):=by
 by_cases hsm:Small p∧Small q
 ·exact Add_small s t w hG hs hsm.1 ht hsm.2
 ·have f1:=fit_mul (x:=p.num) (y:=(q.den:Int)) hp.1 (by rw [den_nat];exact hq.2) (show a+b≤300 by omega)
  have f2:=fit_mul (x:=q.num) (y:=(p.den:Int)) hq.1 (by rw [den_nat];exact hp.2) (show b+a≤300 by omega)
  have f3:Fit (p.num * q.den+q.num * p.den):=fit_of_lt (pow300 (sum_lt hp hq) hab)
  have f4:Fit ((p.den:Int) * q.den):=fit_of_lt (pow300 (dens_lt hp hq) (by omega))
  have hC:CombOk 65 (p.num * q.den+q.num * p.den) (p.num * q.den) (q.num * p.den):=fun s t w hG h1 h2=>(Iadd_ok _ _ s t w hG h1 f1 h2 f2).mono fun e w' h=>h.1 f3
  have HQ:=Lib.hid (fun W=>quick_no 62 s t W hs ht hp (show a≤300 by omega) hq (show b≤300 by omega) hsm)
  have HB:=Lib.hid (fun (bx:Nat) (W:World) (hG:Glo W) (hbx:W.cell? ⟨bx,0,none⟩=some (.func (.func 65) #[] #[]))=>both_cap (r:=p+q) 124 bx _ s t W hG hbx (fun W hG=>read_any s W hG hs hp (by omega)) (fun W hG=>read_any t W hG ht hq (by omega)) (enters_of Tryz.func124 (by kernel_rfl) rfl)
   (fun x y u v W hG hb h1 h2 h3 h4=>by rw [← rat_add];exact combL_ok 65 bx x y u v W hG hb (enters_of Tryz.func65 (by kernel_rfl) rfl) h1 h2 h3 h4 (hp.fn (by omega)) (hp.fd (by omega)) (hq.fn (by omega)) (hq.fd (by omega)) f1 f2 f3 f4 p.den_pos q.den_pos hC))
  have HG:=Lib.hid hG
  clear hs ht hG hC f1 f2 f3 f4 hp hq
  go_enter Tryz.func19,Tryz.ntmps19
  go_wp2_with fail
  refine (HQ.out _).mono ?_
  rintro e w1 ⟨rfl,hB1⟩
  go_wp2_with fail
  refine (combined_any _ _).mono ?_
  rintro e w2 ⟨rfl,rfl⟩
  go_wp2_with fail
  refine (HB.out _ _ (HG.out.below qbl) (by simp [go_sem])).mono ?_
  rintro e w3 ⟨r,hr,rfl,hB3⟩
  have HR:=Lib.hid hr
  have hb3:Below w.heap.size w w3:=qbl
  clear hr hB3
  go_wp2_with fail
  go_ret2
  exact ⟨r,HR.out,rfl,hb3⟩
theorem ratText_ne48 {q:Rat} (h:q≠0):ratText q≠[48]:=by
 intro e
 have hs:Small q:=by
  refine Decidable.byContradiction fun hc=>?_
  have h1:=natOf_big hc
  rw [e] at h1
  revert h1;decide
 exact ratText_ne0 hs h e
theorem RDiv_ok {a b:Nat} {p q:Rat} (s t:ByteArray) (w:World) (hG:Glo w) (hs:s.data.toList=ratText p) (hp:Sz a p) (ht:t.data.toList=ratText q) (hq:Sz b q) (hab:a+b≤300) (h0:0 < q.num) :
  Calls Tryz.prog 44 #[.string s,.string t] w (RetN (p / q) w):=by
 have hq0:q≠0:=fun h=>by rw [h] at h0;simp at h0
 by_cases hsm:Small p∧Small q
 ·exact Div_small s t w hG hs hsm.1 ht hsm.2 hq0
 ·have hne:(t.toList == [48])=false:=ne_of_list ht (ratText_ne48 hq0)
  have HQ:=Lib.hid (fun W=>quick_no 101 s t W hs ht hp (show a≤300 by omega) hq (show b≤300 by omega) hsm)
  have HB:=Lib.hid (fun (W:World) (hG:Glo W)=>both_gen (r:=p / q) 102 s t W hG (fun W hG=>read_any s W hG hs hp (by omega)) (fun W hG=>read_any t W hG ht hq (by omega)) (enters_of Tryz.func102 (by kernel_rfl) rfl)
   (fun x y u v W hG h1 h2 h3 h4=>by rw [← rat_div];exact divL_ok x y u v W hG h1 h2 h3 h4 (hp.fn (by omega)) (hp.fd (by omega)) (hq.fn (by omega)) (hq.fd (by omega)) (fit_mul hp.1 (by rw [den_nat];exact hq.2) hab) (fit_mul hq.1 (by rw [den_nat];exact hp.2) (by omega)) (Int.mul_pos h0 (by have:=p.den_pos;omega))))
  have HG:=Lib.hid hG
  clear hs ht hG hp hq
  go_enter Tryz.func44,Tryz.ntmps44
  go_wp2_with fail
  refine (HQ.out _).mono ?_
  rintro e w1 ⟨rfl,hB1⟩
  go_wp2_with fail
  refine (HB.out _ (HG.out.below qbl)).mono ?_
  rintro e w3 ⟨r,hr,rfl,hB3⟩
  have HR:=Lib.hid hr
  have hb3:Below w.heap.size w w3:=qbl
  clear hr hB3
  go_wp2_with fail
  go_ret2
  exact ⟨r,HR.out,rfl,hb3⟩
end Go.Proofs.YteepphiomcedfaaGreatDoor
namespace Go.Proofs.YteepphiomcedfaaGreatDoor
open Go.RowKit
theorem RCompare_ok {k m:Nat} {p q:Rat} (s t:ByteArray) (w:World) (hG:Glo w) (hs:s.data.toList=ratText p) (hp:Sz k p) (ht:t.data.toList=ratText q) (hq:Sz m q) (hkm:k+m≤300) :
  Calls Tryz.prog 21 #[.string s,.string t] w (RetB (.tuple #[.int .i64 (Lib.compareInt (p.num * q.den) (q.num * p.den)),.int .i64 0]) w):=by
 by_cases hsm:Small p∧Small q
 ·exact Compare_small s t w hs hsm.1 ht hsm.2
 ·have f1:=fit_mul (x:=p.num) (y:=(q.den:Int)) hp.1 (by rw [den_nat];exact hq.2) hkm
  have f2:=fit_mul (x:=q.num) (y:=(p.den:Int)) hq.1 (by rw [den_nat];exact hp.2) (show m+k≤300 by omega)
  have RS:=Lib.hid (fun W hG=>read_any s W hG hs hp (by omega))
  have RT:=Lib.hid (fun W hG=>read_any t W hG ht hq (by omega))
  have CR:=Lib.hid (fun (a b c d:ByteArray) W hG h1 h2 h3 h4=>crossedL_ok p.num q.num p.den q.den a b c d W hG h1 h2 h3 h4 (hp.fn (by omega)) (hp.fd (by omega)) (hq.fn (by omega)) (hq.fd (by omega)) f1 f2)
  have HG:=Lib.hid hG
  have hsz:=txt_size hs hp (by omega)
  have htz:=txt_size ht hq (by omega)
  by_cases h1:Small p
  ·have hno:natOf t.data.toList=none:=by rw [ht];exact natOf_big fun h=>hsm ⟨h1,h⟩
   have HS:=Lib.hid hs
   have HN:=Lib.hid hno
   have HP:=Lib.hid h1
   clear hs ht hG hp hq hsm h1 hno
   go_enter Tryz.func21,Tryz.ntmps21
   go_wp2_with fail
   refine (nativeOf_small s _ HS.out HP.out).mono ?_
   rintro e w1 ⟨rfl,hB1⟩
   have hb1:Below w.heap.size w w1:=qbl
   clear hB1
   go_wp2_with fail
   refine (nativeOf_none t _ (by omega) HN.out).mono ?_
   rintro e w2 ⟨rfl,hB2⟩
   have hb2:Below w.heap.size w w2:=qbl
   clear hB2
   go_wp2_with fail
   refine (RS.out _ (HG.out.below qbl)).mono ?_
   rintro e w3 ⟨a,b,ha,hb,rfl,hB3⟩
   have hb3:Below w.heap.size w w3:=qbl
   clear hB3
   go_wp2_with fail
   refine (RT.out _ (HG.out.below qbl)).mono ?_
   rintro e w4 ⟨c,d,hc,hd,rfl,hB4⟩
   have hb4:Below w.heap.size w w4:=qbl
   have c1:w4.cell? ⟨w3.heap.size,0,none⟩=some (.string a):=keep hB4 (by simp [go_sem])
   have c2:w4.cell? ⟨w3.heap.size,1,none⟩=some (.string b):=keep hB4 (by simp [go_sem])
   have z1:=lt_of_cell c1
   clear hB4
   go_wp2_with fail
   refine (CR.out a b c d _ (HG.out.below qbl) ha.out hb.out hc.out hd.out).mono ?_
   rintro e w5 ⟨u,v,hu,hv,rfl,hB5⟩
   have hb5:Below w.heap.size w w5:=qbl
   clear hB5
   go_wp2_with fail
   refine (ICompare_ok (p.num * q.den) (q.num * p.den) u v _ hu.out f1 hv.out f2).mono ?_
   rintro e w6 ⟨rfl,hB6⟩
   have hb6:Below w.heap.size w w6:=qbl
   go_wp2_with fail
   go_ret2
   exact ⟨rfl,qbl⟩
  ·have hno:natOf s.data.toList=none:=by rw [hs];exact natOf_big h1
   have HN:=Lib.hid hno
   clear hs ht hG hp hq hsm h1 hno
   go_enter Tryz.func21,Tryz.ntmps21
   go_wp2_with fail
   refine (nativeOf_none s _ (by omega) HN.out).mono ?_
   rintro e w2 ⟨rfl,hB2⟩
   have hb2:Below w.heap.size w w2:=qbl
   clear hB2
   go_wp2_with fail
   refine (RS.out _ (HG.out.below qbl)).mono ?_
   rintro e w3 ⟨a,b,ha,hb,rfl,hB3⟩
   have hb3:Below w.heap.size w w3:=qbl
   clear hB3
   go_wp2_with fail
   refine (RT.out _ (HG.out.below qbl)).mono ?_
   rintro e w4 ⟨c,d,hc,hd,rfl,hB4⟩
   have hb4:Below w.heap.size w w4:=qbl
   have c1:w4.cell? ⟨w3.heap.size,0,none⟩=some (.string a):=keep hB4 (by simp [go_sem])
   have c2:w4.cell? ⟨w3.heap.size,1,none⟩=some (.string b):=keep hB4 (by simp [go_sem])
   have z1:=lt_of_cell c1
   clear hB4
   go_wp2_with fail
   refine (CR.out a b c d _ (HG.out.below qbl) ha.out hb.out hc.out hd.out).mono ?_
   rintro e w5 ⟨u,v,hu,hv,rfl,hB5⟩
   have hb5:Below w.heap.size w w5:=qbl
   clear hB5
   go_wp2_with fail
   refine (ICompare_ok (p.num * q.den) (q.num * p.den) u v _ hu.out f1 hv.out f2).mono ?_
   rintro e w6 ⟨rfl,hB6⟩
   have hb6:Below w.heap.size w w6:=qbl
   go_wp2_with fail
   go_ret2
   exact ⟨rfl,qbl⟩
theorem ratText_head {q:Rat} (h:0≤q.num):(ratText q).head?≠some 45:=by
 unfold ratText
 rcases itoa_cases q.num with ⟨h0,_⟩|⟨_,e⟩
 ·omega
 ·rw [e]
  split
  ·have:=decDigits_no45 q.num.natAbs []
   rwa [List.append_nil] at this
  ·exact decDigits_no45 _ _
theorem ratText_ne_nil (q:Rat):ratText q≠[]:=by
 unfold ratText
 rcases itoa_cases q.num with ⟨_,e⟩|⟨_,e⟩<;>rw [e]<;>split<;>simp [decDigits_ne]
theorem sz_int {n:Int} {k:Nat} (h:n.natAbs < 10 ^ k) (hk:1≤k):Sz k (n:Rat):=⟨h,by
 show (1:Nat) < 10 ^ k
 exact Nat.one_lt_pow (by omega) (by omega)⟩
end Go.Proofs.YteepphiomcedfaaGreatDoor
