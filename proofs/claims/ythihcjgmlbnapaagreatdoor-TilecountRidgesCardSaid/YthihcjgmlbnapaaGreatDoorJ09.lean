/- Joined texts: WRatL, WRatM, WRatN, WFlowL, WPartsQ, WRootP, WRootQ, WRootC, WRatio. -/
import Derived.Test.YthihcjgmlbnapaaGreatDoorJ08
import Derived.Test.YthihcjgmlbnapaaGreatDoorJ01
import Derived.Test.YthihcjgmlbnapaaGreatDoorJ04
set_option maxRecDepth 100000
set_option linter.unusedVariables false
set_option linter.unusedSimpArgs false
set_option maxHeartbeats 12800000
namespace Go.Proofs.YthihcjgmlbnapaaGreatDoor
open Go.RowKit
theorem fit_nat {n:Nat} (h:n < 10 ^ 300):Fit (n:Int):=fit_of_lt (by omega)
theorem Qnumber_ok (n d:Int) (s t:ByteArray) (w:World) (hG:Glo w) (hs:s.data.toList=Lib.itoa n) (hx:Fit n) (ht:t.data.toList=Lib.itoa d) (hy:Fit d) (hd:0 < d) :
  Calls Tryz.prog 69 #[.string s,.string t] w (RetN (Rat.divInt n d) w):=by
 have HS:=Lib.hid hs
 have HT:=Lib.hid ht
 have HG:=Lib.hid hG
 have HX:=Lib.hid hx
 have HY:=Lib.hid hy
 have hp:Lib.hasPrefix t.data.toList [45]=false:=by
  rw [ht]
  rcases itoa_cases d with ⟨h,_⟩|⟨_,e⟩
  ·omega
  ·rw [e]
   have h1:=decDigits_no45 d.natAbs []
   rw [List.append_nil] at h1
   cases hd':Lib.decDigits d.natAbs with
   | nil=>rfl
   | cons a l =>
    rw [hd'] at h1
    simp only [Lib.hasPrefix,List.isPrefixOf,Bool.and_true]
    simpa using fun e=>h1 (by simp [← e])
 have HP:=Lib.hid hp
 obtain ⟨a,b,g,hg,g0,ha,hb,hb0,hnum,hden,q1,q2⟩:=divInt_parts n d hd
 have hg':Int.gcd n d=g:=by rw [hg];simp only [Int.gcd];congr 1;omega
 have e1:n / (g:Int)=a:=by rw [ha];exact Int.mul_ediv_cancel _ (by omega)
 have e2:d / (g:Int)=b:=by rw [hb];exact Int.mul_ediv_cancel _ (by omega)
 have r1:n % (g:Int)=0:=by rw [ha];exact Int.mul_emod_left _ _
 have gd:g≤d.natAbs:=by
  have:(g:Int) ∣ d:=⟨b,by rw [Int.mul_comm];exact hb⟩
  have:=Int.le_of_dvd hd this
  omega
 have han:a.natAbs≤n.natAbs:=by rw [← q1,Int.natAbs_tdiv];exact Nat.div_le_self _ _
 have hbn:b.natAbs≤d.natAbs:=by rw [← q2,Int.natAbs_tdiv];exact Nat.div_le_self _ _
 have FG:=Lib.hid (fit_le (a:=(g:Int)) (by omega) hy)
 have FA:=Lib.hid (fit_le han hx)
 have FB:=Lib.hid (fit_le hbn hy)
 have E1:=Lib.hid e1
 have E2:=Lib.hid e2
 have R1:=Lib.hid r1
 have HGG:=Lib.hid hg'
 have HN:=Lib.hid hnum
 have HD:=Lib.hid hden
 have HB0:=Lib.hid hb0
 have G0:=Lib.hid g0
 clear hs ht hG hp hg g0 ha hb hb0 hnum hden q1 q2 hg' e1 e2 r1 gd han hbn hx hy
 go_enter Tryz.func69,Tryz.ntmps69
 go_wp2_with fail
 refine (Tryz.strings_HasPrefix _ _ _).mono ?_
 rintro e w1 ⟨rfl,hw1⟩
 rw [hw1,show Lib.hasPrefix t.data.toList (ByteArray.mk #[45]).data.toList=false from HP.out]
 clear hw1
 go_wp2_with fail
 refine (IGcd_ok n d s t _ HG.out HS.out HX.out HT.out HY.out).mono ?_
 intro e w2 hrx
 obtain ⟨c,hc,rfl,hB2⟩:=hrx.1 (by rw [HGG.out];exact FG.out)
 rw [HGG.out] at hc
 have HC:=Lib.hid hc
 clear hc hrx
 by_cases hg1:g=1
 ·have hz1:=eq_of_list (s:=c) (m:=[49]) (by rw [HC.out,hg1];exact itoa_one)
  have NH:Hid (s.data.toList=Lib.itoa a):=Lib.hid (by rw [HS.out,← E1.out,hg1];congr 1;omega)
  have DH:Hid (t.data.toList=Lib.itoa b):=Lib.hid (by rw [HT.out,← E2.out,hg1];congr 1;omega)
  clear hg1
  by_cases hb1:b=1
  ·have hz:=eq_of_list (s:=t) (m:=[49]) (by rw [DH.out,hb1];exact itoa_one)
   have HT2:Hid (ratText (Rat.divInt n d)=Lib.itoa a):=Lib.hid (by
    have h2:=HD.out
    rw [ratText,if_pos (by omega),HN.out])
   clear hb1
   go_wp2_with fail
   go_ret2
   exact ⟨s,by rw [NH.out,HT2.out],rfl,qbl⟩
  ·have hz:=ne_of_list (s:=t) (m:=[49]) DH.out (itoa_ne1 hb1)
   have HT2:Hid (ratText (Rat.divInt n d)=Lib.itoa a++47::Lib.itoa b):=Lib.hid (by
    have h2:=HD.out
    rw [ratText,if_neg (by omega),HN.out,← h2,Lib.itoa_nonneg])
   have l1:=fit_size NH.out FA.out
   have l2:=fit_size DH.out FB.out
   clear hb1
   go_wp2_with fail
   go_ret2
   refine ⟨_,?_,rfl,qbl⟩
   rw [HT2.out,← NH.out,← DH.out]
   simp
 ·have hz1:=ne_of_list (s:=c) (m:=[49]) HC.out (itoa_ne1 (by omega))
  clear hg1
  go_wp2_with fail
  refine (IDivide_ok n g s c _ (HG.out.below qbl) HS.out HX.out HC.out FG.out (by have:=G0.out;omega) (.inl R1.out)).mono ?_
  rintro e w3 ⟨s',r',hs',hr',rfl,hB3⟩
  have NH:Hid (s'.data.toList=Lib.itoa a):=Lib.hid (by rw [hs',E1.out])
  clear hs' hr'
  go_wp2_with fail
  refine (IDivide_ok d g t c _ (HG.out.below qbl) HT.out HY.out HC.out FG.out (by have:=G0.out;omega) (.inr (by omega))).mono ?_
  rintro e w4 ⟨t',r'',ht',hr'',rfl,hB4⟩
  have DH:Hid (t'.data.toList=Lib.itoa b):=Lib.hid (by rw [ht',E2.out])
  clear ht' hr''
  by_cases hb1:b=1
  ·have hz:=eq_of_list (s:=t') (m:=[49]) (by rw [DH.out,hb1];exact itoa_one)
   have HT2:Hid (ratText (Rat.divInt n d)=Lib.itoa a):=Lib.hid (by
    have h2:=HD.out
    rw [ratText,if_pos (by omega),HN.out])
   clear hb1
   go_wp2_with fail
   go_ret2
   exact ⟨s',by rw [NH.out,HT2.out],rfl,qbl⟩
  ·have hz:=ne_of_list (s:=t') (m:=[49]) DH.out (itoa_ne1 hb1)
   have HT2:Hid (ratText (Rat.divInt n d)=Lib.itoa a++47::Lib.itoa b):=Lib.hid (by
    have h2:=HD.out
    rw [ratText,if_neg (by omega),HN.out,← h2,Lib.itoa_nonneg])
   have l1:=fit_size NH.out FA.out
   have l2:=fit_size DH.out FB.out
   clear hb1
   go_wp2_with fail
   go_ret2
   refine ⟨_,?_,rfl,qbl⟩
   rw [HT2.out,← NH.out,← DH.out]
   simp
theorem crossedL_ok (xn yn:Int) (xd yd:Nat) (a b c d:ByteArray) (w:World) (hG:Glo w) (ha:a.data.toList=Lib.itoa xn) (hb:b.data.toList=Lib.decDigits xd) (hc:c.data.toList=Lib.itoa yn) (hd:d.data.toList=Lib.decDigits yd)
  (fa:Fit xn) (fb:Fit (xd:Int)) (fc:Fit yn) (fd:Fit (yd:Int)) (f1:Fit (xn * yd)) (f2:Fit (yn * xd)) :
  Calls Tryz.prog 66 #[.agg #[.string a,.string b],.agg #[.string c,.string d]] w (RetC (xn * yd) (yn * xd) w):=by
 rw [← itoa_natCast] at hb hd
 have HA:=Lib.hid ha
 have HB:=Lib.hid hb
 have HC:=Lib.hid hc
 have HD:=Lib.hid hd
 have HG:=Lib.hid hG
 clear hG ha hb hc hd
 go_enter Tryz.func66,Tryz.ntmps66
 go_wp2_with fail
 refine (Imul_ok xn yd a d _ (HG.out.below qbl) HA.out fa HD.out fd).mono ?_
 intro e w1 hrx
 obtain ⟨r,hr,rfl,hB1⟩:=hrx.1 f1
 have HR:=Lib.hid hr
 clear hr hrx
 have c1:w1.cell? ⟨w.heap.size,1,none⟩=some (.string b):=keep hB1 (by simp [go_sem])
 have c2:w1.cell? ⟨w.heap.size+1,0,none⟩=some (.string c):=keep hB1 (by simp [go_sem])
 have z1:=lt_of_cell c1
 have z2:=lt_of_cell c2
 have hB1':Below w.heap.size w w1:=qbl
 go_wp2_with fail
 refine (Imul_ok yn xd c b _ (HG.out.below qbl) HC.out fc HB.out fb).mono ?_
 intro e w2 hrx
 obtain ⟨s,hs,rfl,hB2⟩:=hrx.1 f2
 have HS:=Lib.hid hs
 clear hs hrx
 have hB2':Below w.heap.size w w2:=qbl
 go_wp2_with fail
 go_ret3
 exact ⟨r,s,HR,HS,rfl,qbl⟩
theorem mulL_ok {xn yn:Int} {xd yd:Nat} (a b c d:ByteArray) (w:World) (hG:Glo w) (ha:a.data.toList=Lib.itoa xn) (hb:b.data.toList=Lib.decDigits xd) (hc:c.data.toList=Lib.itoa yn) (hd:d.data.toList=Lib.decDigits yd)
  (fa:Fit xn) (fb:Fit (xd:Int)) (fc:Fit yn) (fd:Fit (yd:Int)) (f1:Fit (xn * yn)) (f2:Fit ((xd:Int) * yd)) (hx:0 < xd) (hy:0 < yd) :
  Calls Tryz.prog 110 #[.agg #[.string a,.string b],.agg #[.string c,.string d]] w (RetN (Rat.divInt (xn * yn) ((xd:Int) * yd)) w):=by
 rw [← itoa_natCast] at hb hd
 have HA:=Lib.hid ha
 have HB:=Lib.hid hb
 have HC:=Lib.hid hc
 have HD:=Lib.hid hd
 have HG:=Lib.hid hG
 have hp:0 < (xd:Int) * yd:=Int.mul_pos (by omega) (by omega)
 clear hG ha hb hc hd
 go_enter Tryz.func110,Tryz.ntmps110
 go_wp2_with fail
 refine (Imul_ok xn yn a c _ (HG.out.below qbl) HA.out fa HC.out fc).mono ?_
 intro e w1 hrx
 obtain ⟨r,hr,rfl,hB1⟩:=hrx.1 f1
 have HR:=Lib.hid hr
 have c1:w1.cell? ⟨w.heap.size,1,none⟩=some (.string b):=keep hB1 (by simp [go_sem])
 have c2:w1.cell? ⟨w.heap.size+1,1,none⟩=some (.string d):=keep hB1 (by simp [go_sem])
 have z1:=lt_of_cell c1
 have z2:=lt_of_cell c2
 have hb1:Below w.heap.size w w1:=qbl
 clear hr hB1 hrx
 go_wp2_with fail
 refine (Imul_ok xd yd b d _ (HG.out.below qbl) HB.out fb HD.out fd).mono ?_
 intro e w2 hrx
 obtain ⟨s,hs,rfl,hB2⟩:=hrx.1 f2
 have HS:=Lib.hid hs
 have hb2:Below w.heap.size w w2:=qbl
 clear hs hB2 hrx
 go_wp2_with fail
 refine (Qnumber_ok (xn * yn) ((xd:Int) * yd) r s _ (HG.out.below qbl) HR.out f1 HS.out f2 hp).mono ?_
 rintro e w3 ⟨v,hv,rfl,hB3⟩
 have HV:=Lib.hid hv
 have hb3:Below w.heap.size w w3:=qbl
 clear hv hB3
 go_wp2_with fail
 go_ret2
 exact ⟨v,HV.out,rfl,hb3⟩
theorem divL_ok {xn yn:Int} {xd yd:Nat} (a b c d:ByteArray) (w:World) (hG:Glo w) (ha:a.data.toList=Lib.itoa xn) (hb:b.data.toList=Lib.decDigits xd) (hc:c.data.toList=Lib.itoa yn) (hd:d.data.toList=Lib.decDigits yd)
  (fa:Fit xn) (fb:Fit (xd:Int)) (fc:Fit yn) (fd:Fit (yd:Int)) (f1:Fit (xn * yd)) (f2:Fit (yn * xd)) (hp:0 < yn * xd) :
  Calls Tryz.prog 80 #[.agg #[.string a,.string b],.agg #[.string c,.string d]] w (RetN (Rat.divInt (xn * yd) (yn * xd)) w):=by
 have hy0:yn≠0:=by intro h;rw [h] at hp;simp at hp
 have hne:(c.toList == [48])=false:=by
  rw [Lib.toList_data,hc];simpa using itoa_ne0 hy0
 have HA:=Lib.hid ha
 have HB:=Lib.hid hb
 have HC:=Lib.hid hc
 have HD:=Lib.hid hd
 have HG:=Lib.hid hG
 clear hG ha hb hc hd hy0
 go_enter Tryz.func80,Tryz.ntmps80
 go_wp2_with fail
 refine (crossedL_ok xn yn xd yd a b c d _ (HG.out.below qbl) HA.out HB.out HC.out HD.out fa fb fc fd f1 f2).mono ?_
 rintro e w1 ⟨r,s,hr,hs,rfl,hB1⟩
 have hb1:Below w.heap.size w w1:=qbl
 clear hB1
 go_wp2_with fail
 refine (Qnumber_ok (xn * yd) (yn * xd) r s _ (HG.out.below qbl) hr.out f1 hs.out f2 hp).mono ?_
 rintro e w3 ⟨v,hv,rfl,hB3⟩
 have HV:=Lib.hid hv
 have hb3:Below w.heap.size w w3:=qbl
 clear hv hB3
 go_wp2_with fail
 go_ret2
 exact ⟨v,HV.out,rfl,hb3⟩
def CombOk (G:Nat) (z:Int) (x y:Int):Prop:=∀ (s t:ByteArray) (w:World),Glo w→s.data.toList=Lib.itoa x→t.data.toList=Lib.itoa y→Calls Tryz.prog G #[.string s,.string t] w (RetI z w)
theorem combL_ok {xn yn z:Int} {xd yd:Nat} (G bx:Nat) (a b c d:ByteArray) (w:World) (hG:Glo w) (hbx:w.cell? ⟨bx,0,none⟩=some (.func (.func G) #[] #[])) (hE:∀ args w,(callFunc G args).run Tryz.prog w=.ok (.enter G args) w) (ha:a.data.toList=Lib.itoa xn) (hb:b.data.toList=Lib.decDigits xd) (hc:c.data.toList=Lib.itoa yn) (hd:d.data.toList=Lib.decDigits yd)
  (fa:Fit xn) (fb:Fit (xd:Int)) (fc:Fit yn) (fd:Fit (yd:Int)) (f1:Fit (xn * yd)) (f2:Fit (yn * xd)) (f3:Fit z) (f4:Fit ((xd:Int) * yd)) (hx:0 < xd) (hy:0 < yd) (hC:CombOk G z (xn * yd) (yn * xd)) :
  Calls Tryz.prog 138 #[.agg #[.string a,.string b],.agg #[.string c,.string d],.pointer (some ⟨bx,0,none⟩)] w (RetN (Rat.divInt z ((xd:Int) * yd)) w):=by
 have HA:=Lib.hid ha
 have HB:=Lib.hid hb
 have HB':Hid (b.data.toList=Lib.itoa (xd:Int)):=Lib.hid (by rw [itoa_natCast];exact hb)
 have HC:=Lib.hid hc
 have HD:=Lib.hid hd
 have HD':Hid (d.data.toList=Lib.itoa (yd:Int)):=Lib.hid (by rw [itoa_natCast];exact hd)
 have HG:=Lib.hid hG
 have HCO:=Lib.hid hC
 have hp:0 < (xd:Int) * yd:=Int.mul_pos (by omega) (by omega)
 have zx:=lt_of_cell hbx
 clear hG ha hb hc hd hC
 go_enter Tryz.func138,Tryz.ntmps138
 go_wp2_with fail
 refine (crossedL_ok xn yn xd yd a b c d _ (HG.out.below qbl) HA.out HB.out HC.out HD.out fa fb fc fd f1 f2).mono ?_
 rintro e w1 ⟨u,v,hu,hv,rfl,hB1⟩
 have hb1:Below w.heap.size w w1:=qbl
 have k1:=keep hb1 hbx
 have c1:w1.cell? ⟨w.heap.size,1,none⟩=some (.string b):=keep hB1 (by simp [go_sem])
 have c2:w1.cell? ⟨w.heap.size+1,1,none⟩=some (.string d):=keep hB1 (by simp [go_sem])
 clear hB1
 go_wp2_with fail
 refine (HCO.out u v _ (HG.out.below hb1) hu.out hv.out).mono ?_
 rintro e w2 ⟨r,hr,rfl,hB2⟩
 have HR:=Lib.hid hr
 have hb2:Below w.heap.size w w2:=below_trans' hb1 hB2
 have c1':=keep hB2 c1
 have c2':=keep hB2 c2
 clear hr hB2
 go_wp2_with fail
 refine (Imul_ok xd yd b d _ (HG.out.below qbl) HB'.out fb HD'.out fd).mono ?_
 intro e w3 hrx
 obtain ⟨s,hs,rfl,hB3⟩:=hrx.1 f4
 have HS:=Lib.hid hs
 have hb3:Below w.heap.size w w3:=below_trans' hb2 hB3
 clear hs hB3 hrx
 go_wp2_with fail
 refine (Qnumber_ok z ((xd:Int) * yd) r s _ (HG.out.below qbl) HR.out f3 HS.out f4 hp).mono ?_
 rintro e w4 ⟨q,hq,rfl,hB4⟩
 have HQ:=Lib.hid hq
 have hb4:Below w.heap.size w w4:=below_trans' hb3 hB4
 clear hq hB4
 go_wp2_with fail
 go_ret2
 exact ⟨q,HQ.out,rfl,hb4⟩
end Go.Proofs.YthihcjgmlbnapaaGreatDoor
namespace Go.Proofs.YthihcjgmlbnapaaGreatDoor
open Go.RowKit
def Sz (k:Nat) (q:Rat):Prop:=q.num.natAbs < 10 ^ k∧q.den < 10 ^ k
theorem pow300 {k n:Nat} (h:n < 10 ^ k) (hk:k≤300):n < 10 ^ 300:=Nat.lt_of_lt_of_le h (pow10_le (a:=k) (b:=300) hk)
theorem Sz.fn {k:Nat} {q:Rat} (h:Sz k q) (hk:k≤300):Fit q.num:=fit_of_lt (pow300 h.1 hk)
theorem Sz.fd {k:Nat} {q:Rat} (h:Sz k q) (hk:k≤300):Fit (q.den:Int):=fit_of_lt (pow300 (by simpa using h.2) hk)
theorem mul_lt {a b:Nat} {x y:Int} (hx:x.natAbs < 10 ^ a) (hy:y.natAbs < 10 ^ b):(x * y).natAbs < 10 ^ (a+b):=by
 rw [Int.natAbs_mul,Nat.pow_add]
 exact Nat.mul_lt_mul'' hx hy
theorem fit_mul {a b:Nat} {x y:Int} (hx:x.natAbs < 10 ^ a) (hy:y.natAbs < 10 ^ b) (h:a+b≤300):Fit (x * y):=fit_of_lt (pow300 (mul_lt hx hy) h)
theorem sz_divInt {n d:Int} {k:Nat} (hd:0 < d) (hn:n.natAbs < 10 ^ k) (hk:d.natAbs < 10 ^ k):Sz k (Rat.divInt n d):=by
 obtain ⟨a,b,g,hg,g0,ha,hb,hb0,hnum,hden,q1,q2⟩:=divInt_parts n d hd
 refine ⟨?_,?_⟩
 ·rw [hnum,← q1,Int.natAbs_tdiv]
  exact Nat.lt_of_le_of_lt (Nat.div_le_self _ _) hn
 ·have h:b.natAbs≤d.natAbs:=by rw [← q2,Int.natAbs_tdiv];exact Nat.div_le_self _ _
  omega
theorem rat_add (p q:Rat):Rat.divInt (p.num * q.den+q.num * p.den) ((p.den:Int) * q.den)=p+q:=by rw [Rat.add_def',← Rat.divInt_ofNat];simp
theorem rat_mul (p q:Rat):Rat.divInt (p.num * q.num) ((p.den:Int) * q.den)=p * q:=by rw [Rat.mul_def',← Rat.divInt_ofNat];simp
theorem rat_div (p q:Rat):Rat.divInt (p.num * q.den) (q.num * p.den)=p / q:=by
 rw [Int.mul_comm q.num,Rat.div_def,Rat.inv_def,← Rat.num_divInt_den p,Rat.divInt_mul_divInt,Rat.num_divInt_den]
theorem den_nat (q:Rat):((q.den:Int)).natAbs=q.den:=by simp
theorem den_pos' (p q:Rat):0 < (p.den:Int) * q.den:=Int.mul_pos (by have:=p.den_pos;omega) (by have:=q.den_pos;omega)
theorem sum_lt {a b:Nat} {p q:Rat} (hp:Sz a p) (hq:Sz b q):(p.num * q.den+q.num * p.den).natAbs < 10 ^ (a+b+1):=by
 have h1:=mul_lt (x:=p.num) (y:=(q.den:Int)) hp.1 (by rw [den_nat];exact hq.2)
 have h2:=mul_lt (x:=q.num) (y:=(p.den:Int)) hq.1 (by rw [den_nat];exact hp.2)
 rw [Nat.add_comm b a] at h2
 rw [Nat.pow_succ]
 generalize p.num * (q.den:Int)=u at *
 generalize q.num * (p.den:Int)=v at *
 generalize (10:Nat) ^ (a+b)=P at *
 omega
theorem Sz.mono {a b:Nat} {q:Rat} (h:Sz a q) (hab:a≤b):Sz b q:=⟨Nat.lt_of_lt_of_le h.1 (Nat.pow_le_pow_right (by omega) hab),Nat.lt_of_lt_of_le h.2 (Nat.pow_le_pow_right (by omega) hab)⟩
theorem dens_lt {a b:Nat} {p q:Rat} (hp:Sz a p) (hq:Sz b q):((p.den:Int) * q.den).natAbs < 10 ^ (a+b):=mul_lt (by rw [den_nat];exact hp.2) (by rw [den_nat];exact hq.2)
theorem Sz.add {a b:Nat} {p q:Rat} (hp:Sz a p) (hq:Sz b q):Sz (a+b+1) (p+q):=by
 rw [← rat_add]
 exact sz_divInt (den_pos' p q) (sum_lt hp hq) (Nat.lt_of_lt_of_le (dens_lt hp hq) (Nat.pow_le_pow_right (by omega) (by omega)))
theorem Sz.mul {a b:Nat} {p q:Rat} (hp:Sz a p) (hq:Sz b q):Sz (a+b) (p * q):=by
 rw [← rat_mul]
 exact sz_divInt (den_pos' p q) (mul_lt hp.1 hq.1) (dens_lt hp hq)
theorem Sz.div {a b:Nat} {p q:Rat} (hp:Sz a p) (hq:Sz b q) (h0:0 < q.num):Sz (a+b) (p / q):=by
 rw [← rat_div]
 refine sz_divInt (Int.mul_pos h0 (by have:=p.den_pos;omega)) (mul_lt hp.1 (by rw [den_nat];exact hq.2)) ?_
 rw [Nat.add_comm]
 exact mul_lt hq.1 (by rw [den_nat];exact hp.2)
theorem ratText_len {k:Nat} {q:Rat} (h:Sz k q) (hk:k≤300) (h1:1≤k):(ratText q).length≤2 * k+2:=by
 have l1:=itoa_len_le (n:=q.num) (k:=k) h.1 h1
 have l2:(Lib.decDigits q.den).length≤k:=by rw [Lib.decDigits_length];exact nDigits_le_of_lt h.2 h1
 unfold ratText
 split
 ·omega
 ·rw [List.length_append,List.length_cons];omega
theorem txt_size {k:Nat} {q:Rat} {s:ByteArray} (hs:s.data.toList=ratText q) (h:Sz k q) (hk:k≤300):s.size≤602:=by
 have h1:=ratText_len (h.mono (show k≤300 by omega)) (by omega) (by omega)
 rw [← hs] at h1
 have e:s.size=s.data.toList.length:=rfl
 omega
theorem read_any {k:Nat} {q:Rat} (s:ByteArray) (w:World) (hG:Glo w) (hs:s.data.toList=ratText q) (hq:Sz k q) (hk:k≤300) :
  Calls Tryz.prog 54 #[.string s] w (RetP q (.int .i64 0) w):=by
 by_cases hsm:Small q
 ·exact read_small s w hG hs hsm
 ·have hsz:=txt_size hs hq hk
  have hno:natOf s.data.toList=none:=by rw [hs];exact natOf_big hsm
  have HS:=Lib.hid hs
  have HN:=Lib.hid hno
  have HG:=Lib.hid hG
  have FN:=hq.fn hk
  have FD:=hq.fd hk
  have hred:=q.reduced
  have HRED:Hid (((Int.gcd q.num (q.den:Int):Nat):Int)=1):=Lib.hid (by unfold Int.gcd;rw [den_nat];exact congrArg _ hred)
  clear hs hG hno hred
  go_enter Tryz.func54,Tryz.ntmps54
  go_wp2_with fail
  refine (cut_valid s _ (HG.out.below qbl) HS.out (by omega)).mono ?_
  rintro e w1 ⟨a,b,ha,hb,rfl,hB1⟩
  have c0:w1.cell? ⟨w.heap.size,0,none⟩=some (.string ⟨#[]⟩):=keep hB1 (by simp [go_sem])
  have c1:w1.cell? ⟨w.heap.size,1,none⟩=some (.string ⟨#[]⟩):=keep hB1 (by simp [go_sem])
  have g0:w1.frozen? ⟨w.heap.size,0,none⟩=false:=keepf hB1 (v:=.string ⟨#[]⟩) (by simp [go_sem]) (by simp [go_sem])
  have g1:w1.frozen? ⟨w.heap.size,1,none⟩=false:=keepf hB1 (v:=.string ⟨#[]⟩) (by simp [go_sem]) (by simp [go_sem])
  have z1:=lt_of_cell c0
  go_wp2_with fail
  refine (nativeOf_none s _ (by omega) HN.out).mono ?_
  rintro e w2 ⟨rfl,hB2⟩
  have c0':w2.cell? ⟨w.heap.size,0,none⟩=some (.string ⟨#[]⟩):=keep hB2 (keep (bw4 (bw0 _ _) _) c0)
  have c1':w2.cell? ⟨w.heap.size,1,none⟩=some (.string ⟨#[]⟩):=keep hB2 (keep (bw4 (bw0 _ _) _) c1)
  have g0':w2.frozen? ⟨w.heap.size,0,none⟩=false:=keepf hB2 (keep (bw4 (bw0 _ _) _) c0) (keepf (bw4 (bw0 _ _) _) c0 g0)
  have g1':w2.frozen? ⟨w.heap.size,1,none⟩=false:=keepf hB2 (keep (bw4 (bw0 _ _) _) c1) (keepf (bw4 (bw0 _ _) _) c1 g1)
  have c2:w2.cell? ⟨w1.heap.size,0,none⟩=some (.string a):=keep hB2 (by simp [go_sem])
  have c3:w2.cell? ⟨w1.heap.size,1,none⟩=some (.string b):=keep hB2 (by simp [go_sem])
  have z2:=lt_of_cell c0'
  have z3:=lt_of_cell c2
  have hx:=(trim_itoa q.num).1
  have ha':a.data.toList=Lib.itoa q.num:=ha.out
  rw [← ha'] at hx
  have HX:=Lib.hid hx
  have hbl:(b.size:Int)≤300:=by
   have h2:b.size=b.data.toList.length:=rfl
   have h3:(Lib.decDigits q.den).length≤300:=by have:=FD;unfold Fit at this;rwa [den_nat] at this
   rw [h2,hb.out]
   omega
  have hb2:Below w.heap.size w w2:=qbl
  have HBI:Hid (b.data.toList=Lib.itoa (q.den:Int)):=Lib.hid (by rw [itoa_natCast];exact hb.out)
  clear hx ha' c0 c1 g0 g1 hB1 hB2
  by_cases hd1:q.den=1
  ·have hb1:(b.toList == [49])=true:=eq_of_list (by rw [hb.out,hd1];exact one_digits)
   clear hd1
   go_wp2_with fail
   refine (trimPrefix_any a _ _ HX.out).mono ?_
   rintro e w3 ⟨o,ho,rfl,rfl⟩
   have hol:(o.size:Int)≤300:=by
    have h2:o.size=o.data.toList.length:=rfl
    have h3:=FN
    unfold Fit at h3
    rw [h2,ho.out];omega
   go_wp2_with fail
   refine bodyPost_ret (v:=.tuple #[.agg #[.string a,.string b],.int .i64 0]) (by simp [results,Tryz.results54,go_sem,c0',c1',c2,c3,z2,z3]) rfl ⟨a,b,ha,hb,rfl,qbl⟩
  ·have hb1:(b.toList == [49])=false:=ne_of_list (m:=[49]) HBI.out (itoa_ne1 (by omega))
   clear hd1
   go_wp2_with fail
   refine (trimPrefix_any a _ _ HX.out).mono ?_
   rintro e w3 ⟨o,ho,rfl,rfl⟩
   have hol:(o.size:Int)≤300:=by
    have h2:o.size=o.data.toList.length:=rfl
    have h3:=FN
    unfold Fit at h3
    rw [h2,ho.out];omega
   go_wp2_with fail
   refine (IGcd_ok q.num q.den a b _ (HG.out.below qbl) ha.out FN HBI.out FD).mono ?_
   intro e w4 hrx
   obtain ⟨g,hg,rfl,hB4⟩:=hrx.1 (by rw [HRED.out];exact fit18 (by decide))
   rw [HRED.out] at hg
   have hg1:(g.toList == [49])=true:=eq_of_list (by rw [hg];exact itoa_one)
   have d0:=keep hB4 (keep (bw4 (bw0 w2.heap.size w2) _) c0')
   have d1:=keep hB4 (keep (bw4 (bw0 w2.heap.size w2) _) c1')
   have d2:=keep hB4 (keep (bw4 (bw0 w2.heap.size w2) _) c2)
   have d3:=keep hB4 (keep (bw4 (bw0 w2.heap.size w2) _) c3)
   have f0:=keepf hB4 (keep (bw4 (bw0 w2.heap.size w2) _) c0') (keepf (bw4 (bw0 w2.heap.size w2) _) c0' g0')
   have f1:=keepf hB4 (keep (bw4 (bw0 w2.heap.size w2) _) c1') (keepf (bw4 (bw0 w2.heap.size w2) _) c1' g1')
   have y2:=lt_of_cell d0
   have y3:=lt_of_cell d2
   have hb4:Below w.heap.size w w4:=qbl
   clear hg hrx hB4 c0' c1' c2 c3 g0' g1' z2 z3
   go_wp2_with fail
   refine bodyPost_ret (v:=.tuple #[.agg #[.string a,.string b],.int .i64 0]) (by simp [results,Tryz.results54,go_sem,d0,d1,d2,d3,y2,y3]) rfl ⟨a,b,ha,hb,rfl,qbl⟩
end Go.Proofs.YthihcjgmlbnapaaGreatDoor
namespace Go.Proofs.YthihcjgmlbnapaaGreatDoor
open Go.RowKit
theorem quick_none2 {p:Rat} (F:Nat) (s t:ByteArray) (w:World) (hs:s.data.toList=ratText p) (hp:Small p) (ht:t.size≤1000) (h:natOf t.data.toList=none) :
  Calls Tryz.prog 74 #[.string s,.string t,.func (.func F) #[] #[]] w (RetB (.tuple #[.string ⟨#[]⟩,.bool false]) w):=by
 have HN:=Lib.hid h
 have HS:=Lib.hid hs
 clear h hs
 go_enter Tryz.func74,Tryz.ntmps74
 go_wp2_with fail
 refine (nativeOf_small s _ HS.out hp).mono ?_
 rintro e w1 ⟨rfl,hB1⟩
 go_wp2_with fail
 refine (nativeOf_none t _ ht HN.out).mono ?_
 rintro e w2 ⟨rfl,hB2⟩
 go_wp2_with fail
 go_ret2
 exact ⟨rfl,qbl⟩
theorem quick_no {k m:Nat} {p q:Rat} (F:Nat) (s t:ByteArray) (w:World) (hs:s.data.toList=ratText p) (ht:t.data.toList=ratText q) (hp:Sz k p) (hk:k≤300) (hq:Sz m q) (hm:m≤300) (hn:¬ (Small p∧Small q)) :
  Calls Tryz.prog 74 #[.string s,.string t,.func (.func F) #[] #[]] w (RetB (.tuple #[.string ⟨#[]⟩,.bool false]) w):=by
 by_cases h1:Small p
 ·exact quick_none2 F s t w hs h1 (by have:=txt_size ht hq hm;omega) (by rw [ht];exact natOf_big fun h=>hn ⟨h1,h⟩)
 ·exact quick_none F s t w (by have:=txt_size hs hp hk;omega) (by rw [hs];exact natOf_big h1)
theorem both_cap {p q r:Rat} (F bx:Nat) (v0:Value) (s t:ByteArray) (w:World) (hG:Glo w) (hbx:w.cell? ⟨bx,0,none⟩=some v0)
  (hs:∀ W,Glo W→Calls Tryz.prog 54 #[.string s] W (RetP p (.int .i64 0) W)) (ht:∀ W,Glo W→Calls Tryz.prog 54 #[.string t] W (RetP q (.int .i64 0) W))
  (hE:∀ args w,(callFunc F args).run Tryz.prog w=.ok (.enter F args) w)
  (hF:∀ (a b c d:ByteArray) W,Glo W→W.cell? ⟨bx,0,none⟩=some v0→a.data.toList=Lib.itoa p.num→b.data.toList=Lib.decDigits p.den→c.data.toList=Lib.itoa q.num→d.data.toList=Lib.decDigits q.den→Calls Tryz.prog F #[.agg #[.string a,.string b],.agg #[.string c,.string d],.pointer (some ⟨bx,0,none⟩)] W (RetN r W)) :
  Calls Tryz.prog 76 #[.string s,.string t,.func (.func F) #[] #[.pointer (some ⟨bx,0,none⟩)]] w (RetN r w):=by
 have HS:=Lib.hid hs
 have HT:=Lib.hid ht
 have HG:=Lib.hid hG
 have HF:=Lib.hid hF
 have HBX:=Lib.hid hbx
 clear hs ht hG hF hbx
 go_enter Tryz.func76,Tryz.ntmps76
 go_wp2_with fail
 refine (HS.out _ (HG.out.below qbl)).mono ?_
 rintro e w1 ⟨a,b,ha,hb,rfl,hB1⟩
 have hb1:Below w.heap.size w w1:=qbl
 clear hB1
 go_wp2_with fail
 refine (HT.out _ (HG.out.below qbl)).mono ?_
 rintro e w2 ⟨c,d,hc,hd,rfl,hB2⟩
 have hb2:Below w.heap.size w w2:=qbl
 have c1:w2.cell? ⟨w1.heap.size,0,none⟩=some (.string a):=keep hB2 (by simp [go_sem])
 have c2:w2.cell? ⟨w1.heap.size,1,none⟩=some (.string b):=keep hB2 (by simp [go_sem])
 have z1:=lt_of_cell c1
 clear hB2
 go_wp2_with fail
 refine (HF.out a b c d _ (HG.out.below qbl) (keep (show Below w.heap.size w _ from qbl) HBX.out) ha.out hb.out hc.out hd.out).mono ?_
 rintro e w3 ⟨v,hv,rfl,hB3⟩
 have HV:=Lib.hid hv
 have hb3:Below w.heap.size w w3:=qbl
 clear hv hB3
 go_wp2_with fail
 go_ret2
 exact ⟨v,HV.out,rfl,hb3⟩
theorem combined_any (G:Nat) (w:World) :
  Calls Tryz.prog 77 #[.func (.func G) #[] #[]] w fun e w'=>e=.returned (.func (.func 138) #[] #[.pointer (some ⟨w.heap.size,0,none⟩)])∧w'=w.alloc (.cells #[.func (.func G) #[] #[]] 145):=by
 have hmf:∀ (fn:Fn) (first cap:Array Value) (w:World),(Instr.makeFunc fn first cap).run Tryz.prog w=.ok (.func fn first cap) w:=fun _ _ _ _=>rfl
 go_enter Tryz.func77,Tryz.ntmps77
 go_wp2_with fail
 go_ret
 exact ⟨rfl,rfl⟩
theorem RAdd_ok {a b:Nat} {p q:Rat} (s t:ByteArray) (w:World) (hG:Glo w) (hs:s.data.toList=ratText p) (hp:Sz a p) (ht:t.data.toList=ratText q) (hq:Sz b q) (hab:a+b+1≤300) :
  Calls Tryz.prog 84 #[.string s,.string t] w (RetN (p+q) w):=by
 by_cases hsm:Small p∧Small q
 ·exact Add_small s t w hG hs hsm.1 ht hsm.2
 ·have f1:=fit_mul (x:=p.num) (y:=(q.den:Int)) hp.1 (by rw [den_nat];exact hq.2) (show a+b≤300 by omega)
  have f2:=fit_mul (x:=q.num) (y:=(p.den:Int)) hq.1 (by rw [den_nat];exact hp.2) (show b+a≤300 by omega)
  have f3:Fit (p.num * q.den+q.num * p.den):=fit_of_lt (pow300 (sum_lt hp hq) hab)
  have f4:Fit ((p.den:Int) * q.den):=fit_of_lt (pow300 (dens_lt hp hq) (by omega))
  have hC:CombOk 71 (p.num * q.den+q.num * p.den) (p.num * q.den) (q.num * p.den):=fun s t w hG h1 h2=>(Iadd_ok _ _ s t w hG h1 f1 h2 f2).mono fun e w' h=>h.1 f3
  have HQ:=Lib.hid (fun W=>quick_no 145 s t W hs ht hp (show a≤300 by omega) hq (show b≤300 by omega) hsm)
  have HB:=Lib.hid (fun (bx:Nat) (W:World) (hG:Glo W) (hbx:W.cell? ⟨bx,0,none⟩=some (.func (.func 71) #[] #[]))=>both_cap (r:=p+q) 138 bx _ s t W hG hbx (fun W hG=>read_any s W hG hs hp (by omega)) (fun W hG=>read_any t W hG ht hq (by omega)) (enters_of Tryz.func138 (by kernel_rfl) rfl)
   (fun x y u v W hG hb h1 h2 h3 h4=>by rw [← rat_add];exact combL_ok 71 bx x y u v W hG hb (enters_of Tryz.func71 (by kernel_rfl) rfl) h1 h2 h3 h4 (hp.fn (by omega)) (hp.fd (by omega)) (hq.fn (by omega)) (hq.fd (by omega)) f1 f2 f3 f4 p.den_pos q.den_pos hC))
  have HG:=Lib.hid hG
  clear hs ht hG hC f1 f2 f3 f4 hp hq
  go_enter Tryz.func84,Tryz.ntmps84
  go_wp2_with fail
  refine (HQ.out _).mono ?_
  rintro e w1 ⟨rfl,hB1⟩
  go_wp2_with fail
  refine (combined_any _ _).mono ?_
  rintro e w2 ⟨rfl,rfl⟩
  go_wp2_with fail
  refine (HB.out _ _ (HG.out.below qbl) (by simp [go_sem])).mono ?_
  rintro e w3 ⟨r,hr,rfl,hB3⟩
  have HR:=Lib.hid hr
  have hb3:Below w.heap.size w w3:=qbl
  clear hr hB3
  go_wp2_with fail
  go_ret2
  exact ⟨r,HR.out,rfl,hb3⟩
theorem RMul_ok {a b:Nat} {p q:Rat} (s t:ByteArray) (w:World) (hG:Glo w) (hs:s.data.toList=ratText p) (hp:Sz a p) (ht:t.data.toList=ratText q) (hq:Sz b q) (hab:a+b≤300) :
  Calls Tryz.prog 57 #[.string s,.string t] w (RetN (p * q) w):=by
 by_cases hsm:Small p∧Small q
 ·exact Mul_small s t w hG hs hsm.1 ht hsm.2
 ·have HQ:=Lib.hid (fun W=>quick_no 109 s t W hs ht hp (show a≤300 by omega) hq (show b≤300 by omega) hsm)
  have HB:=Lib.hid (fun (W:World) (hG:Glo W)=>both_gen (r:=p * q) 110 s t W hG (fun W hG=>read_any s W hG hs hp (by omega)) (fun W hG=>read_any t W hG ht hq (by omega)) (enters_of Tryz.func110 (by kernel_rfl) rfl)
   (fun x y u v W hG h1 h2 h3 h4=>by rw [← rat_mul];exact mulL_ok x y u v W hG h1 h2 h3 h4 (hp.fn (by omega)) (hp.fd (by omega)) (hq.fn (by omega)) (hq.fd (by omega)) (fit_mul hp.1 hq.1 hab) (fit_of_lt (pow300 (dens_lt hp hq) hab)) p.den_pos q.den_pos))
  have HG:=Lib.hid hG
  clear hs ht hG hp hq
  go_enter Tryz.func57,Tryz.ntmps57
  go_wp2_with fail
  refine (HQ.out _).mono ?_
  rintro e w1 ⟨rfl,hB1⟩
  go_wp2_with fail
  refine (HB.out _ (HG.out.below qbl)).mono ?_
  rintro e w3 ⟨r,hr,rfl,hB3⟩
  have HR:=Lib.hid hr
  have hb3:Below w.heap.size w w3:=qbl
  clear hr hB3
  go_wp2_with fail
  go_ret2
  exact ⟨r,HR.out,rfl,hb3⟩
theorem ratText_ne48 {q:Rat} (h:q≠0):ratText q≠[48]:=by
 intro e
 have hs:Small q:=by
  refine Decidable.byContradiction fun hc=>?_
  have h1:=natOf_big hc
  rw [e] at h1
  revert h1;decide
 exact ratText_ne0 hs h e
theorem RDiv_ok {a b:Nat} {p q:Rat} (s t:ByteArray) (w:World) (hG:Glo w) (hs:s.data.toList=ratText p) (hp:Sz a p) (ht:t.data.toList=ratText q) (hq:Sz b q) (hab:a+b≤300) (h0:0 < q.num) :
  Calls Tryz.prog 37 #[.string s,.string t] w (RetN (p / q) w):=by
 have hq0:q≠0:=fun h=>by rw [h] at h0;simp at h0
 by_cases hsm:Small p∧Small q
 ·exact Div_small s t w hG hs hsm.1 ht hsm.2 hq0
 ·have hne:(t.toList == [48])=false:=ne_of_list ht (ratText_ne48 hq0)
  have HQ:=Lib.hid (fun W=>quick_no 79 s t W hs ht hp (show a≤300 by omega) hq (show b≤300 by omega) hsm)
  have HB:=Lib.hid (fun (W:World) (hG:Glo W)=>both_gen (r:=p / q) 80 s t W hG (fun W hG=>read_any s W hG hs hp (by omega)) (fun W hG=>read_any t W hG ht hq (by omega)) (enters_of Tryz.func80 (by kernel_rfl) rfl)
   (fun x y u v W hG h1 h2 h3 h4=>by rw [← rat_div];exact divL_ok x y u v W hG h1 h2 h3 h4 (hp.fn (by omega)) (hp.fd (by omega)) (hq.fn (by omega)) (hq.fd (by omega)) (fit_mul hp.1 (by rw [den_nat];exact hq.2) hab) (fit_mul hq.1 (by rw [den_nat];exact hp.2) (by omega)) (Int.mul_pos h0 (by have:=p.den_pos;omega))))
  have HG:=Lib.hid hG
  clear hs ht hG hp hq
  go_enter Tryz.func37,Tryz.ntmps37
  go_wp2_with fail
  refine (HQ.out _).mono ?_
  rintro e w1 ⟨rfl,hB1⟩
  go_wp2_with fail
  refine (HB.out _ (HG.out.below qbl)).mono ?_
  rintro e w3 ⟨r,hr,rfl,hB3⟩
  have HR:=Lib.hid hr
  have hb3:Below w.heap.size w w3:=qbl
  clear hr hB3
  go_wp2_with fail
  go_ret2
  exact ⟨r,HR.out,rfl,hb3⟩
end Go.Proofs.YthihcjgmlbnapaaGreatDoor
namespace Go.Proofs.YthihcjgmlbnapaaGreatDoor
open Go.RowKit
theorem RCheck_ok {k:Nat} {q:Rat} (s:ByteArray) (w:World) (hG:Glo w) (hs:s.data.toList=ratText q) (hq:Sz k q) (hk:k≤300) :
  Calls Tryz.prog 23 #[.string s] w (RetB (.int .i64 0) w):=by
 have HS:=Lib.hid hs
 have HG:=Lib.hid hG
 have HN:=Lib.hid hq
 clear hs hG hq
 go_enter Tryz.func23,Tryz.ntmps23
 go_wp2_with fail
 refine (read_any s _ HG.out HS.out HN.out hk).mono ?_
 rintro e w1 ⟨a,b,ha,hb,rfl,hB1⟩
 go_wp2_with fail
 go_ret
 exact ⟨rfl,qbl⟩
theorem RCompare_ok {k m:Nat} {p q:Rat} (s t:ByteArray) (w:World) (hG:Glo w) (hs:s.data.toList=ratText p) (hp:Sz k p) (ht:t.data.toList=ratText q) (hq:Sz m q) (hkm:k+m≤300) :
  Calls Tryz.prog 30 #[.string s,.string t] w (RetB (.tuple #[.int .i64 (Lib.compareInt (p.num * q.den) (q.num * p.den)),.int .i64 0]) w):=by
 by_cases hsm:Small p∧Small q
 ·exact Compare_small s t w hs hsm.1 ht hsm.2
 ·have f1:=fit_mul (x:=p.num) (y:=(q.den:Int)) hp.1 (by rw [den_nat];exact hq.2) hkm
  have f2:=fit_mul (x:=q.num) (y:=(p.den:Int)) hq.1 (by rw [den_nat];exact hp.2) (show m+k≤300 by omega)
  have RS:=Lib.hid (fun W hG=>read_any s W hG hs hp (by omega))
  have RT:=Lib.hid (fun W hG=>read_any t W hG ht hq (by omega))
  have CR:=Lib.hid (fun (a b c d:ByteArray) W hG h1 h2 h3 h4=>crossedL_ok p.num q.num p.den q.den a b c d W hG h1 h2 h3 h4 (hp.fn (by omega)) (hp.fd (by omega)) (hq.fn (by omega)) (hq.fd (by omega)) f1 f2)
  have HG:=Lib.hid hG
  have hsz:=txt_size hs hp (by omega)
  have htz:=txt_size ht hq (by omega)
  by_cases h1:Small p
  ·have hno:natOf t.data.toList=none:=by rw [ht];exact natOf_big fun h=>hsm ⟨h1,h⟩
   have HS:=Lib.hid hs
   have HN:=Lib.hid hno
   have HP:=Lib.hid h1
   clear hs ht hG hp hq hsm h1 hno
   go_enter Tryz.func30,Tryz.ntmps30
   go_wp2_with fail
   refine (nativeOf_small s _ HS.out HP.out).mono ?_
   rintro e w1 ⟨rfl,hB1⟩
   have hb1:Below w.heap.size w w1:=qbl
   clear hB1
   go_wp2_with fail
   refine (nativeOf_none t _ (by omega) HN.out).mono ?_
   rintro e w2 ⟨rfl,hB2⟩
   have hb2:Below w.heap.size w w2:=qbl
   clear hB2
   go_wp2_with fail
   refine (RS.out _ (HG.out.below qbl)).mono ?_
   rintro e w3 ⟨a,b,ha,hb,rfl,hB3⟩
   have hb3:Below w.heap.size w w3:=qbl
   clear hB3
   go_wp2_with fail
   refine (RT.out _ (HG.out.below qbl)).mono ?_
   rintro e w4 ⟨c,d,hc,hd,rfl,hB4⟩
   have hb4:Below w.heap.size w w4:=qbl
   have c1:w4.cell? ⟨w3.heap.size,0,none⟩=some (.string a):=keep hB4 (by simp [go_sem])
   have c2:w4.cell? ⟨w3.heap.size,1,none⟩=some (.string b):=keep hB4 (by simp [go_sem])
   have z1:=lt_of_cell c1
   clear hB4
   go_wp2_with fail
   refine (CR.out a b c d _ (HG.out.below qbl) ha.out hb.out hc.out hd.out).mono ?_
   rintro e w5 ⟨u,v,hu,hv,rfl,hB5⟩
   have hb5:Below w.heap.size w w5:=qbl
   clear hB5
   go_wp2_with fail
   refine (ICompare_ok (p.num * q.den) (q.num * p.den) u v _ hu.out f1 hv.out f2).mono ?_
   rintro e w6 ⟨rfl,hB6⟩
   have hb6:Below w.heap.size w w6:=qbl
   go_wp2_with fail
   go_ret2
   exact ⟨rfl,qbl⟩
  ·have hno:natOf s.data.toList=none:=by rw [hs];exact natOf_big h1
   have HN:=Lib.hid hno
   clear hs ht hG hp hq hsm h1 hno
   go_enter Tryz.func30,Tryz.ntmps30
   go_wp2_with fail
   refine (nativeOf_none s _ (by omega) HN.out).mono ?_
   rintro e w2 ⟨rfl,hB2⟩
   have hb2:Below w.heap.size w w2:=qbl
   clear hB2
   go_wp2_with fail
   refine (RS.out _ (HG.out.below qbl)).mono ?_
   rintro e w3 ⟨a,b,ha,hb,rfl,hB3⟩
   have hb3:Below w.heap.size w w3:=qbl
   clear hB3
   go_wp2_with fail
   refine (RT.out _ (HG.out.below qbl)).mono ?_
   rintro e w4 ⟨c,d,hc,hd,rfl,hB4⟩
   have hb4:Below w.heap.size w w4:=qbl
   have c1:w4.cell? ⟨w3.heap.size,0,none⟩=some (.string a):=keep hB4 (by simp [go_sem])
   have c2:w4.cell? ⟨w3.heap.size,1,none⟩=some (.string b):=keep hB4 (by simp [go_sem])
   have z1:=lt_of_cell c1
   clear hB4
   go_wp2_with fail
   refine (CR.out a b c d _ (HG.out.below qbl) ha.out hb.out hc.out hd.out).mono ?_
   rintro e w5 ⟨u,v,hu,hv,rfl,hB5⟩
   have hb5:Below w.heap.size w w5:=qbl
   clear hB5
   go_wp2_with fail
   refine (ICompare_ok (p.num * q.den) (q.num * p.den) u v _ hu.out f1 hv.out f2).mono ?_
   rintro e w6 ⟨rfl,hB6⟩
   have hb6:Below w.heap.size w w6:=qbl
   go_wp2_with fail
   go_ret2
   exact ⟨rfl,qbl⟩
theorem ratText_ne_nil (q:Rat):ratText q≠[]:=by
 unfold ratText
 rcases itoa_cases q.num with ⟨_,e⟩|⟨_,e⟩<;>rw [e]<;>split<;>simp [decDigits_ne]
theorem sz_int {n:Int} {k:Nat} (h:n.natAbs < 10 ^ k) (hk:1≤k):Sz k (n:Rat):=⟨h,by
 show (1:Nat) < 10 ^ k
 exact Nat.one_lt_pow (by omega) (by omega)⟩
end Go.Proofs.YthihcjgmlbnapaaGreatDoor
namespace Go.Proofs.YthihcjgmlbnapaaGreatDoor
open Go.RowKit
theorem PartsQ_ok {k:Nat} {q:Rat} (s:ByteArray) (w:World) (hG:Glo w) (hs:s.data.toList=ratText q) (hq:Sz k q) (hk:k≤300) :
  Calls Tryz.prog 60 #[.string s] w fun e w'=>∃ a b:ByteArray,Hid (a.data.toList=Lib.itoa q.num)∧Hid (b.data.toList=Lib.decDigits q.den)∧e=.returned (.tuple #[.string a,.string b,.int .i64 0])∧Below w.heap.size w w':=by
 have H:=Lib.hid (read_any s w hG hs hq hk)
 clear hs hG
 go_enter Tryz.func60,Tryz.ntmps60
 go_wp2_with fail
 refine H.out.mono ?_
 rintro e w1 ⟨a,b,ha,hb,rfl,hB1⟩
 go_wp2_with fail
 go_quiet (fail)
 go_wp2_with fail
 go_ret3
 exact ⟨a,b,ha,hb,rfl,qbl⟩
end Go.Proofs.YthihcjgmlbnapaaGreatDoor
namespace Go.Proofs.YthihcjgmlbnapaaGreatDoor
open Go.RowKit
def RetSS (l m:List UInt8) (w:World) (e:Ending) (w':World):Prop:=∃ a b:ByteArray,a.data.toList=l∧b.data.toList=m∧e=.returned (.tuple #[.string a,.string b])∧Below w.heap.size w w'
theorem hasPrefix_any (s p:ByteArray) (w:World) {c:Bool} (hc:Lib.hasPrefix s.data.toList p.data.toList=c) :
  Calls Tryz.prog 24 #[.string s,.string p] w fun e w'=>e=.returned (.bool c)∧w'=w:=by
 subst hc
 exact (Tryz.strings_HasPrefix s p w).mono fun e w' ⟨h1,h2⟩=>⟨h1,h2⟩
theorem rootMul_ok (x y:Int) (s t:ByteArray) (w:World) (hG:Glo w) (hs:s.data.toList=Lib.itoa x) (hx:Fit x) (ht:t.data.toList=Lib.itoa y) (hy:Fit y) (hxy:Fit (x * y)) :
  Calls Tryz.prog 105 #[.string s,.string t] w (RetS (Lib.itoa (x * y)) w):=by
 have H:=Lib.hid ((Imul_ok x y s t w hG hs hx ht hy).mono fun e w' h=>h.1 hxy)
 clear hs ht hG hx hy hxy
 go_enter Tryz.func105,Tryz.ntmps105
 go_wp2_with fail
 refine H.out.mono ?_
 rintro e w1 ⟨r,hr,rfl,hB⟩
 have HR:=Lib.hid hr
 clear hr
 go_wp2_with fail
 go_ret
 exact ⟨r,HR.out,rfl,hB⟩
theorem quotient_ok (x y:Int) (s t:ByteArray) (w:World) (hG:Glo w) (hs:s.data.toList=Lib.itoa x) (hx:Fit x) (ht:t.data.toList=Lib.itoa y) (hy:Fit y) (hy0:0 < y) (hx0:0≤x) :
  Calls Tryz.prog 160 #[.string s,.string t] w (RetSS (Lib.itoa (x / y)) (Lib.itoa (x % y)) w):=by
 have H:=Lib.hid (IDivide_ok x y s t w hG hs hx ht hy hy0 (.inr hx0))
 clear hs ht hG hx hy
 go_enter Tryz.func160,Tryz.ntmps160
 go_wp2_with fail
 refine H.out.mono ?_
 rintro e w1 ⟨a,b,ha,hb,rfl,hB⟩
 have HA:=Lib.hid ha
 have HBB:=Lib.hid hb
 clear ha hb
 go_wp2_with fail
 go_ret2
 exact ⟨a,b,HA.out,HBB.out,rfl,hB⟩
theorem hasMinus {q:Rat} {l:List UInt8} (h:l=ratText q):Lib.hasPrefix l [45]=decide (q.num < 0):=by
 rw [h,ratText_parts]
 by_cases hn:q.num < 0
 ·rw [if_pos hn,decide_eq_true hn];simp [Lib.hasPrefix,List.isPrefixOf]
 ·rw [if_neg hn,decide_eq_false hn,List.nil_append]
  cases hd:Lib.decDigits q.num.natAbs with
  | nil=>exact absurd hd (decDigits_ne _)
  | cons a t =>
   have h45:=decDigits_no45 q.num.natAbs []
   rw [List.append_nil,hd] at h45
   have ha:a≠45:=by simpa using h45
   simp [Lib.hasPrefix,List.isPrefixOf,Ne.symm ha]
theorem rootNeg_ok {q:Rat} (s:ByteArray) (w:World) (hs:s.data.toList=ratText q) :
  Calls Tryz.prog 157 #[.string s] w fun e w'=>e=.returned (.bool (decide (q.num < 0)))∧w'=w:=by
 have H:=Lib.hid (fun W=>hasPrefix_any s ⟨#[45]⟩ W (hasMinus hs))
 generalize decide (q.num < 0)=c at *
 clear hs
 go_enter Tryz.func157,Tryz.ntmps157
 go_wp2_with fail
 refine (H.out _).mono ?_
 rintro e w1 ⟨rfl,rfl⟩
 go_wp2_with fail
 go_ret
 exact ⟨rfl,rfl⟩
def RetPr (q:Rat) (w:World) (e:Ending) (w':World):Prop:=∃ a b:ByteArray,a.data.toList=Lib.itoa q.num∧b.data.toList=Lib.decDigits q.den∧e=.returned (.agg #[.string a,.string b])∧Below w.heap.size w w'
theorem fraction_ok {n:Int} {d:Nat} (s t:ByteArray) (w:World) (hG:Glo w) (hs:s.data.toList=Lib.itoa n) (hn:n.natAbs < 10 ^ 150) (ht:t.data.toList=Lib.decDigits d) (hd:d < 10 ^ 150) (hd0:0 < d) :
  Calls Tryz.prog 108 #[.string s,.string t] w (RetS (ratText ((n:Rat) / ((d:Int):Rat))) w):=by
 have h1:Sz 150 (n:Rat):=sz_int hn (by decide)
 have h2:Sz 150 ((d:Int):Rat):=sz_int (by simpa using hd) (by decide)
 have H:=Lib.hid (RDiv_ok s t w hG (by rw [hs,ratText_int]) h1 (by rw [ht,ratText_int,itoa_natCast]) h2 (by decide) (by show 0 < (d:Int);omega))
 generalize (n:Rat) / ((d:Int):Rat)=q at *
 clear hs ht hG hn hd h1 h2
 go_enter Tryz.func108,Tryz.ntmps108
 go_wp2_with fail
 refine H.out.mono ?_
 rintro e w1 ⟨r,hr,rfl,hB⟩
 have HR:=Lib.hid hr
 clear hr
 go_wp2_with fail
 go_ret
 exact ⟨r,HR.out,rfl,hB⟩
theorem native_ok (n:Nat) (s:ByteArray) (w:World) (hs:s.data.toList=Lib.decDigits n) (hl:s.size≤17) :
  Calls Tryz.prog 103 #[.string s] w (RetB (.tuple #[.int .i64 n,.bool true]) w):=by
 have hn:n < 10 ^ 17:=pow_le_of_lt (by rw [← hs];exact hl)
 have hn':n < 100000000000000000:=hn
 have hat:Lib.atoiAll s.data.toList=.ok (n:Int):=by rw [hs,← itoa_natCast];exact atoi_itoa (by omega) (by omega)
 have HAT:=Lib.hid hat
 have hl':¬ (17:Int) < (s.size:Int):=by omega
 have hsz:s.size≤1000:=by omega
 clear hs hat hn
 go_enter Tryz.func103,Tryz.ntmps103
 go_wp2_with fail
 refine (atoi_any s _ (by omega) HAT.out).mono ?_
 rintro e w1 ⟨rfl,hB1⟩
 go_wp2_with fail
 go_quiet (fail)
 go_wp2_with fail
 go_ret2
 exact ⟨rfl,qbl⟩
theorem native_long (s:ByteArray) (w:World) (hl:17 < s.size) :
  Calls Tryz.prog 103 #[.string s] w (RetB (.tuple #[.int .i64 0,.bool false]) w):=by
 have hl':(17:Int) < (s.size:Int):=by omega
 go_enter Tryz.func103,Tryz.ntmps103
 go_wp2_with fail
 go_ret2
 exact ⟨rfl,bw0 _ _⟩
theorem rootN_two {n L:Nat} (h:n < 2 ^ L):rootN n≤2 ^ ((L+1) / 2):=by
 refine rootN_le (Nat.lt_of_lt_of_le h ?_)
 refine Nat.le_trans (Nat.pow_le_pow_right (by decide) (show L≤(L+1) / 2+(L+1) / 2 by omega)) ?_
 rw [Nat.pow_add]
 exact Nat.mul_le_mul (by omega) (by omega)
theorem bitLen_bds {n:Nat} (h0:n≠0) (h:n < 100000000000000000):n < 2 ^ Lib.bitLen n∧Lib.bitLen n≤57:=by
 obtain ⟨h1,h2,h3⟩:=Lib.bitLenAux_bounds 64 n (by omega) h0
 refine ⟨h3,Nat.le_of_not_lt fun hc=>?_⟩
 have h4:2 ^ 57≤2 ^ (Lib.bitLenAux 64 n - 1):=Nat.pow_le_pow_right (by decide) (by
  have:Lib.bitLen n=Lib.bitLenAux 64 n:=rfl
  omega)
 have h5:(2:Nat) ^ 57=144115188075855872:=by decide
 omega
theorem bitsLen_any (x:Int) (w:World) (h0:0≤x) (h1:x≤18446744073709551615) :
  Calls Tryz.prog 63 #[.int .u64 x] w fun e w'=>e=.returned (.int .i64 (Lib.bitLen x.toNat))∧w'=w:=Tryz.bits_Len x w h0 h1
theorem nativeRoot_ok (n:Nat) (w:World) (hn:n < 100000000000000000) :
  Calls Tryz.prog 158 #[.int .i64 n] w (RetB (.int .i64 (rootN n:Nat)) w):=by
 by_cases h2:n < 2
 ·have e:rootN n=n:=by
   have:n=0∨n=1:=by omega
   rcases this with rfl|rfl<;>decide
  rw [e]
  have h2':(n:Int) < 2:=by omega
  go_enter Tryz.func158,Tryz.ntmps158
  go_wp2_with fail
  go_ret
  exact ⟨rfl,bw0 _ _⟩
 ·have h2':¬ (n:Int) < 2:=by omega
  obtain ⟨b1,b2⟩:=bitLen_bds (show n≠0 by omega) hn
  have hr0:=rootN_two b1
  have HL:=Lib.hid (fun W=>bitsLen_any (n:Int) W (by omega) (by omega))
  rw [Int.toNat_natCast] at HL
  generalize Lib.bitLen n=L at *
  have hw1:IntKind.i64.wrap ((L:Int)+1)=(L:Int)+1:=IntWalk.i64_in _ (by omega)
  obtain ⟨k,hk⟩:∃ k,(L+1) / 2=k:=⟨_,rfl⟩
  rw [hk] at hr0
  have hk29:k≤29:=by omega
  have hd:((L:Int)+1).tdiv 2=(k:Int):=by rw [Int.tdiv_eq_ediv_of_nonneg (by omega)];omega
  have hwk:IntKind.i64.wrap (k:Int)=(k:Int):=IntWalk.i64_in _ (by omega)
  have hp:2 ^ k≤2 ^ 29:=Nat.pow_le_pow_right (by decide) hk29
  have hp':2 ^ k≤536870912:=hp
  have HR0:=Lib.hid hr0
  have hcv:IntKind.u64.wrap (n:Int)=(n:Int):=by simp [IntKind.wrap,IntKind.bits,IntKind.signed];omega
  obtain ⟨P,hP⟩:∃ P,2 ^ k=P:=⟨_,rfl⟩
  have hPe:(2:Int) ^ k=(P:Int):=by rw [← hP];push_cast;rfl
  have hP1:1≤P:=by rw [← hP];exact Nat.pow_pos (by decide)
  rw [hP] at HR0 hp'
  have hsh:IntKind.i64.wrap ((2:Int) ^ k)=(P:Int):=by rw [hPe];exact IntWalk.i64_in _ (by omega)
  have hn2:2≤n:=by omega
  clear hr0 b1 hp hk h2 hP hPe
  go_enter Tryz.func158,Tryz.ntmps158
  go_wp2_with fail
  refine (HL.out _).mono ?_
  rintro e w1 ⟨rfl,hw1'⟩
  obtain rfl:w=w1:=hw1'.symm
  go_wp2_with fail
  go_loopw [3] (fun x wr=>∃ Y:Nat,x=.int .i64 Y∧1≤Y∧Y≤2000000000∧Hid (rootN n≤Y)∧Below w.heap.size w wr) (fun x _=>(intOf x).toNat)
  case atStart=>exact ⟨P,rfl,hP1,by omega,HR0,bw0 _ _⟩
  case round =>
   obtain ⟨Y,rfl,y1,y2,HY,hB⟩:=hrel
   have hq:=quo_nat n Y
   have hy0:¬ ((Y:Int)=0):=by omega
   have hQ2:n / Y≤n:=Nat.div_le_self _ _
   obtain ⟨Z,hZ⟩:∃ Z,(Y+n / Y) / 2=Z:=⟨_,rfl⟩
   have HN1:=Lib.hid (newton_ge n y1)
   have HN2:=Lib.hid (fun h=>newton_eq (n:=n) HY.out h)
   rw [hZ] at HN1 HN2
   obtain ⟨Q,hQ⟩:∃ Q,n / Y=Q:=⟨_,rfl⟩
   rw [hQ] at hq hQ2 hZ
   have hw1:IntKind.i64.wrap ((Y:Int)+(Q:Int))=(Y:Int)+(Q:Int):=IntWalk.i64_in _ (by omega)
   have hq2:((Y:Int)+(Q:Int)).tdiv 2=(Z:Int):=by rw [Int.tdiv_eq_ediv_of_nonneg (by omega)];omega
   have hwz:IntKind.i64.wrap (Z:Int)=(Z:Int):=IntWalk.i64_in _ (by omega)
   have hwq:IntKind.i64.wrap (Q:Int)=(Q:Int):=IntWalk.i64_in _ (by omega)
   clear hQ hQ2
   by_cases hge:Y≤Z
   ·have HR:=Lib.hid (HN2.out hge)
    have hgeI:(Y:Int)≤(Z:Int):=by omega
    clear hge HN1 HN2
    go_wp2_with fail
    go_ret
    exact ⟨by rw [HR.out];first|done|rfl,hB⟩
   ·have hgeI:¬ (Y:Int)≤(Z:Int):=by omega
    have hz1:1≤Z:=Nat.le_trans (le_rootN (by omega)) HN1.out
    clear HN2
    go_wp2_with fail
    go_roundw
    case rel=>exact ⟨Z,rfl,hz1,by omega,HN1,hB⟩
    case measure=>simp [intOf];omega
end Go.Proofs.YthihcjgmlbnapaaGreatDoor
namespace Go.Proofs.YthihcjgmlbnapaaGreatDoor
open Go.RowKit
theorem isSqN_iff (m:Nat):isSqN m=true↔rootN m * rootN m=m:=by simp [isSqN]
def RetEx (l:List UInt8) (b:Bool) (w:World) (e:Ending) (w':World):Prop:=∃ r:ByteArray,r.data.toList=l∧e=.returned (.tuple #[.string r,.bool b])∧Below w.heap.size w w'
theorem exact_ok (m:Nat) (s:ByteArray) (w:World) (hG:Glo w) (hs:s.data.toList=Lib.decDigits m) (hl:s.size≤300) :
  Calls Tryz.prog 107 #[.string s] w (RetEx (Lib.decDigits (rootN m)) (isSqN m) w):=by
 by_cases h17:s.size≤17
 ·have hm:m < 10 ^ 17:=pow_le_of_lt (by rw [← hs];exact h17)
  have hm':m < 100000000000000000:=hm
  have HN:=Lib.hid (fun W=>native_ok m s W hs h17)
  have HR:=Lib.hid (fun W=>nativeRoot_ok m W hm')
  have hr2:rootN m * rootN m≤m:=(rootN_spec m).1
  have hr3:rootN m≤m:=Nat.le_trans (Nat.le_mul_self _) hr2
  obtain ⟨b,hb⟩:∃ b,isSqN m=b:=⟨_,rfl⟩
  rw [hb]
  have HB:=Lib.hid hb
  have HQ:=Lib.hid (isSqN_iff m)
  have HT:=Lib.hid (itoa_natCast (rootN m))
  obtain ⟨R,hR⟩:∃ R,rootN m=R:=⟨_,rfl⟩
  rw [hR] at HR hr2 hr3 HQ HT
  have HRR:=Lib.hid hR
  have hwm:IntKind.i64.wrap ((R:Int) * (R:Int))=(R:Int) * (R:Int):=IntWalk.i64_in _ (by
   have e:(R:Int) * (R:Int)=((R * R:Nat):Int):=by push_cast;rfl
   rw [e];omega)
  have hbe:(((R:Int) * (R:Int)) == (m:Int))=b:=by
   have e:(R:Int) * (R:Int)=((R * R:Nat):Int):=by push_cast;rfl
   rw [e]
   cases b
   ·have h1:¬ R * R=m:=fun h=>by have:=HQ.out.2 h;rw [HB.out] at this;cases this
    rw [beq_eq_false_iff_ne];omega
   ·have h1:=HQ.out.1 HB.out
    rw [h1];simp
  have HG:=Lib.hid hG
  clear hs hG hm hb hR hr2
  go_enter Tryz.func107,Tryz.ntmps107
  go_wp2_with fail
  refine (HN.out _).mono ?_
  rintro e w1 ⟨rfl,hB1⟩
  go_wp2_with fail
  refine (HR.out _).mono ?_
  rintro e w2 ⟨rfl,hB2⟩
  have hb2:=below_trans' hB1 hB2
  clear hB1 hB2
  go_wp2_with fail
  refine (itoa_any (R:Int) (by omega) (by omega) _ (HG.out.below hb2)).mono ?_
  rintro e w3 ⟨r,hr,rfl,hB3⟩
  have hb3:=below_trans' hb2 hB3
  have HX:=Lib.hid hr
  clear hr hB3
  go_wp2_with fail
  go_ret2
  exact ⟨r,by rw [HRR.out,← HT.out];exact HX.out,rfl,hb3⟩
 ·have HN:=Lib.hid (fun W=>native_long s W (by omega))
  have HR:=Lib.hid (fun W hG=>Root_ok m s W hG hs hl)
  have hF:Fit (m:Int):=by unfold Fit;rw [Int.natAbs_natCast,← hs];exact hl
  have hFR:=fit_root hs hl
  obtain ⟨b,hb⟩:∃ b,isSqN m=b:=⟨_,rfl⟩
  rw [hb]
  have HB:=Lib.hid hb
  have HT:=Lib.hid (itoa_natCast (rootN m))
  have hq:=isSqN_iff m
  have HM:=Lib.hid (fun (r:ByteArray) W (hG:Glo W) (hr:r.data.toList=Lib.itoa ((rootN m:Nat):Int))=>rootMul_ok _ _ r r W hG hr hFR hr hFR (by
   have e:((rootN m:Nat):Int) * ((rootN m:Nat):Int)=((rootN m * rootN m:Nat):Int):=by push_cast;rfl
   rw [e];exact fit_lt (rootN_spec m).1 hF))
  have HE:=Lib.hid (fun (t:ByteArray) (ht:t.data.toList=Lib.itoa (((rootN m:Nat):Int) * ((rootN m:Nat):Int)))=>(by
   have e:((rootN m:Nat):Int) * ((rootN m:Nat):Int)=((rootN m * rootN m:Nat):Int):=by push_cast;rfl
   rw [e,itoa_natCast] at ht
   rw [Lib.toList_data,Lib.toList_data,ht,hs]
   cases b
   ·have h1:¬ rootN m * rootN m=m:=fun h=>by have:=hq.2 h;rw [hb] at this;cases this
    rw [beq_eq_false_iff_ne]
    exact fun h=>h1 (dec_inj h)
   ·rw [hq.1 hb];simp:(t.toList == s.toList)=b))
  have HG:=Lib.hid hG
  clear hs hG hb hF hFR hq
  go_enter Tryz.func107,Tryz.ntmps107
  go_wp2_with fail
  refine (HN.out _).mono ?_
  rintro e w1 ⟨rfl,hB1⟩
  go_wp2_with fail
  refine (HR.out _ (HG.out.below hB1)).mono ?_
  rintro e w2 ⟨r,hr,rfl,hB2⟩
  have hb2:=below_trans' hB1 hB2
  have HX:=Lib.hid hr
  clear hr hB1 hB2
  go_wp2_with fail
  refine (HM.out r _ (HG.out.below hb2) HX.out).mono ?_
  rintro e w3 ⟨t,ht,rfl,hB3⟩
  have hb3:=below_trans' hb2 hB3
  have hE:=HE.out t ht
  clear ht hB3 HM HE
  go_wp2_with fail
  go_ret2
  exact ⟨r,by rw [← HT.out];exact HX.out,rfl,hb3⟩
def RetRo (b:Bool) (q:Rat) (w:World) (e:Ending) (w':World):Prop:=∃ r:ByteArray,e=.returned (.tuple #[.string r,.bool b])∧Hid (b=true→r.data.toList=ratText q)∧Below w.heap.size w w'
theorem rootOf_ok (n d:Nat) (s t:ByteArray) (w:World) (hG:Glo w) (hs:s.data.toList=Lib.decDigits n) (ht:t.data.toList=Lib.decDigits d) (hd0:0 < d) (hn:n < 10 ^ 150) (hd:d < 10 ^ 150) :
  Calls Tryz.prog 112 #[.agg #[.string s,.string t]] w (RetRo (isSqN n && isSqN d) ((((rootN n:Nat):Int):Rat) / (((rootN d:Nat):Int):Rat)) w):=by
 have hsl:s.size≤300:=by
  have h1:s.size=s.data.toList.length:=rfl
  rw [h1,hs,Lib.decDigits_length]
  exact Nat.le_trans (nDigits_le_of_lt hn (by omega)) (by omega)
 have htl:t.size≤300:=by
  have h1:t.size=t.data.toList.length:=rfl
  rw [h1,ht,Lib.decDigits_length]
  exact Nat.le_trans (nDigits_le_of_lt hd (by omega)) (by omega)
 have H1:=Lib.hid (fun W hG=>exact_ok n s W hG hs hsl)
 have H2:=Lib.hid (fun W hG=>exact_ok d t W hG ht htl)
 have hrd:0 < rootN d:=le_rootN (by omega)
 have hrn:rootN n≤n:=Nat.le_trans (Nat.le_mul_self _) (rootN_spec n).1
 have hrdd:rootN d≤d:=Nat.le_trans (Nat.le_mul_self _) (rootN_spec d).1
 have HF:=Lib.hid (fun (a b:ByteArray) W (hG:Glo W) (ha:a.data.toList=Lib.decDigits (rootN n)) (hb:b.data.toList=Lib.decDigits (rootN d))=>fraction_ok (n:=((rootN n:Nat):Int)) (d:=rootN d) a b W hG (by rw [ha,itoa_natCast]) (by rw [Int.natAbs_natCast];exact Nat.lt_of_le_of_lt hrn hn) hb (Nat.lt_of_le_of_lt hrdd hd) hrd)
 have HG:=Lib.hid hG
 obtain ⟨q,hq⟩:∃ q:Rat,(((rootN n:Nat):Int):Rat) / (((rootN d:Nat):Int):Rat)=q:=⟨_,rfl⟩
 obtain ⟨x,hx⟩:∃ x,isSqN n=x:=⟨_,rfl⟩
 obtain ⟨y,hy⟩:∃ y,isSqN d=y:=⟨_,rfl⟩
 rw [hq] at HF
 rw [hq,hx,hy]
 rw [hx] at H1
 rw [hy] at H2
 clear hs ht hG hn hd hrn hrdd hq hrd hd0 hx hy
 go_enter Tryz.func112,Tryz.ntmps112
 go_wp2_with fail
 refine (H1.out _ (HG.out.below qbl)).mono ?_
 rintro e w1 ⟨a,ha,rfl,hB1⟩
 have hb1:Below w.heap.size w w1:=qbl
 have c1:w1.cell? ⟨w.heap.size,1,none⟩=some (.string t):=keep hB1 (by simp [go_sem])
 have HA:=Lib.hid ha
 clear ha hB1
 go_wp2_with fail
 refine (H2.out _ (HG.out.below hb1)).mono ?_
 rintro e w2 ⟨b,hb,rfl,hB2⟩
 have hb2:=below_trans' hb1 hB2
 have HBB:=Lib.hid hb
 clear hb hB2 hb1 c1
 cases x
 ·go_wp2_with fail
  go_ret2
  exact ⟨⟨#[]⟩,rfl,Lib.hid (fun h=>by cases h),hb2⟩
 ·cases y
  ·go_wp2_with fail
   go_ret2
   exact ⟨⟨#[]⟩,rfl,Lib.hid (fun h=>by cases h),hb2⟩
  ·go_wp2_with fail
   refine (HF.out a b _ (HG.out.below hb2) HA.out HBB.out).mono ?_
   rintro e w3 ⟨r,hr,rfl,hB3⟩
   have hb3:=below_trans' hb2 hB3
   have HR:=Lib.hid hr
   clear hr hB3
   go_wp2_with fail
   go_ret2
   exact ⟨r,rfl,Lib.hid (fun _=>HR.out),hb3⟩
end Go.Proofs.YthihcjgmlbnapaaGreatDoor
namespace Go.Proofs.YthihcjgmlbnapaaGreatDoor
open Go.RowKit
theorem rootOf1_ok {k:Nat} {q:Rat} (s:ByteArray) (w:World) (hG:Glo w) (hs:s.data.toList=ratText q) (hq:Sz k q) (hk:k≤300) :
  Calls Tryz.prog 102 #[.string s] w (RetPr q w):=by
 have H:=Lib.hid (PartsQ_ok s (w.alloc (.cells #[.string ⟨#[]⟩,.string ⟨#[]⟩] 176)) (hG.below (bw4 (bw0 _ _) _)) hs hq hk)
 clear hs hG
 go_enter Tryz.func102,Tryz.ntmps102
 go_wp2_with fail
 refine H.out.mono ?_
 rintro e w1 ⟨a,b,ha,hb,rfl,hB⟩
 have hb1:Below w.heap.size w w1:=qbl
 have c0:w1.cell? ⟨w.heap.size,0,none⟩=some (.string ⟨#[]⟩):=keep hB (by simp [go_sem])
 have c1:w1.cell? ⟨w.heap.size,1,none⟩=some (.string ⟨#[]⟩):=keep hB (by simp [go_sem])
 have g0:w1.frozen? ⟨w.heap.size,0,none⟩=false:=keepf hB (v:=.string ⟨#[]⟩) (by simp [go_sem]) (by simp [go_sem])
 have g1:w1.frozen? ⟨w.heap.size,1,none⟩=false:=keepf hB (v:=.string ⟨#[]⟩) (by simp [go_sem]) (by simp [go_sem])
 have z0:=lt_of_cell c0
 have HA:=Lib.hid ha
 have HBB:=Lib.hid hb
 clear hB ha hb
 go_wp2_with fail
 refine bodyPost_ret (v:=.agg #[.string a,.string b]) (by simp [results,Tryz.results102,go_sem, *]) rfl ?_
 exact ⟨a,b,HA.out,HBB.out,rfl,(hb1.setCell (Nat.le_refl _) _).setCell (Nat.le_refl _) _⟩
theorem IsStrs.cells {w:World} {a:Option Addr} {cap n:Nat} {l:List Rat} (h:IsStrs w (.slice a n cap) (l.map numS)):n=l.length∧(l≠[]→∃ b off,a=some ⟨b,off,none⟩∧∀ k (h:k < l.length),w.cell? ⟨b,off+k,none⟩=some (.string (numS l[k]))):=by
 obtain ⟨a',cap',e,h2⟩:=h
 cases e
 refine ⟨by simp,fun hne=>?_⟩
 obtain ⟨b,off,e,hc⟩:=h2 (by simpa using hne)
 exact ⟨b,off,e,fun k hk=>by have:=hc k (by simpa using hk);simpa using this⟩
theorem max2_any {P:Program} (k:IntKind) (x y:Int):∃ m,x≤m∧y≤m∧(m=x∨m=y)∧∀ (ts:Array TypeId) (t:TypeId) (w:World),(Builtin.max_ ts t #[.int k x,.int k y]).run P w=.ok (.int k m) w:=by
 refine ⟨if y > x then y else x,?_,?_,?_,fun ts t w=>by simp [Builtin.max_,Builtin.max2]⟩<;>split<;>omega
def PairAt (w:World) (b:Nat) (x y:ByteArray):Prop:=w.cell? ⟨b,0,none⟩=some (.string x)∧w.cell? ⟨b,1,none⟩=some (.string y)
theorem trimMinus {n:Int} {l:List UInt8} (h:l=Lib.itoa n):Lib.trimPrefix l [45]=Lib.decDigits n.natAbs:=by rw [h];exact (trim_itoa n).1
theorem rootCheck_ok (L R:List Rat) (u v:Value) (w:World) (hG:Glo w) (hu:IsStrs w u (L.map numS)) (hv:IsStrs w v (R.map numS)) (hL:∀ k (h:k < L.length),Sz 90 L[k]) (hR:∀ k (h:k < R.length),0≤R[k].num) (h1:L.length≤4) (h2:R.length≤4) :
  Calls Tryz.prog 101 #[u,v] w (RetB (.int .i64 0) w):=by
 obtain ⟨a,n,cap,rfl⟩:∃ a n cap,u=.slice a n cap:=by obtain ⟨a,cap,h,_⟩:=hu;exact ⟨_,_,_,h⟩
 obtain ⟨a',n',cap',rfl⟩:∃ a n cap,v=.slice a n cap:=by obtain ⟨a,cap,h,_⟩:=hv;exact ⟨_,_,_,h⟩
 have hu':=hu.cells
 have hv':=hv.cells
 obtain ⟨rfl,hcu⟩:=hu'
 obtain ⟨rfl,hcv⟩:=hv'
 have HU:=Lib.hid hcu
 have HV:=Lib.hid hcv
 have HL:=Lib.hid hL
 have HR:=Lib.hid hR
 have HG:=Lib.hid hG
 clear hu hv hcu hcv hL hR hG
 go_enter Tryz.func101,Tryz.ntmps101
 go_wp2_with fail
 go_loopw [13] (fun i wr=>∃ k:Nat,k≤L.length∧i=.int .i64 k∧Below w.heap.size w wr) (fun i _=>L.length - (intOf i).toNat)
 case atStart=>exact ⟨0,by omega,rfl,bw0 _ _⟩
 case round =>
  obtain ⟨k,hk,rfl,hB⟩:=hrel
  by_cases hlt:k < L.length
  ·obtain ⟨b,off,rfl,hcell⟩:=HU.out (fun h0=>by rw [h0] at hlt;simp at hlt)
   have ck:=keep hB (hcell k hlt)
   have hltI:(k:Int) < (L.length:Int):=by omega
   have hsz:=HL.out k hlt
   have HCK:=Lib.hid (fun W hG=>RCheck_ok (numS L[k]) W hG (numS_list _) hsz (by decide))
   have HOF:=Lib.hid (fun W hG=>rootOf1_ok (numS L[k]) W hG (numS_list _) hsz (by decide))
   have hd1:(Lib.decDigits L[k].num.natAbs).length≤90:=by rw [Lib.decDigits_length];exact nDigits_le_of_lt hsz.1 (by decide)
   have hd2:(Lib.decDigits L[k].den).length≤90:=by rw [Lib.decDigits_length];exact nDigits_le_of_lt hsz.2 (by decide)
   generalize L[k]=q at *
   generalize numS q=sq at *
   clear hcell hsz
   go_wp2_with fail
   refine (HCK.out _ (HG.out.below hB)).mono ?_
   rintro e w2 ⟨rfl,hB2⟩
   have hb2:=below_trans' hB hB2
   clear hB2
   go_wp2_with fail
   refine (HOF.out _ (HG.out.below hb2)).mono ?_
   rintro e w3 ⟨x,y,hx,hy,rfl,hB3⟩
   have hb3:=below_trans' hb2 hB3
   clear hB3 hb2 hB ck
   have hR:PairAt (w3.alloc (.cells #[.string x,.string y] 176)).drew w3.heap.size x y∧Below w.heap.size w (w3.alloc (.cells #[.string x,.string y] 176)).drew:=⟨⟨by simp [go_sem],by simp [go_sem]⟩,qbl⟩
   have HTR:=Lib.hid (fun W=>trimPrefix_any x ⟨#[45]⟩ W (trimMinus hx))
   obtain ⟨dx,hdx⟩:∃ d,(Lib.decDigits q.num.natAbs).length=d:=⟨_,rfl⟩
   have HZL:=Lib.hid (fun (z:ByteArray) (hz:Hid (z.data.toList=Lib.decDigits q.num.natAbs))=>(by
    have h1:z.size=z.data.toList.length:=rfl
    rw [h1,hz.out,hdx]:z.size=dx))
   have hyl:y.size≤90:=by
    have h1:y.size=y.data.toList.length:=rfl
    rw [h1,hy];exact hd2
   obtain ⟨M,m1,m2,m3,hM⟩:=@max2_any Tryz.prog .i64 (dx:Int) (y.size:Int)
   have HMX:=Lib.hid hM
   have hM90:M≤90:=by omega
   have hMb:¬ (90:Int) < M:=by omega
   clear hd1 hd2 hdx hx hy m1 m2 m3 hM hb3
   go_wp2_with fail
   refine region_S (F:=[]) (R:=(fun w'=>PairAt w' w3.heap.size x y∧Below w.heap.size w w')) 9 #[false,false,false,false,false,false,false,false,false] (by kernel_rfl) (by kernel_rfl) (by kernel_rfl) (fun _ _ _ _ _ h=>h) (fun Q' hQ' hN=>?_)
   generalize (w3.alloc (.cells #[.string x,.string y] 176)).drew=wd at *
   refine tS 24 0 (fw:=5) (hy:=by intro wq hRq;obtain ⟨⟨c0,c1⟩,_⟩:=hRq;have hmx:=HMX.out;go_simp;(try with_reducible rfl)) ?_
   refine tS 25 1 (fw:=5) (hy:=by intro wq hRq;obtain ⟨⟨c0,c1⟩,_⟩:=hRq;have hmx:=HMX.out;go_simp;(try with_reducible rfl)) ?_
   refine tS 28 4 (fw:=5) (hy:=by intro wq hRq;obtain ⟨⟨c0,c1⟩,_⟩:=hRq;have hmx:=HMX.out;go_simp;(try with_reducible rfl)) ?_
   refine tS 29 5 (fw:=5) (hy:=by intro wq hRq;obtain ⟨⟨c0,c1⟩,_⟩:=hRq;have hmx:=HMX.out;go_simp;(try with_reducible rfl)) ?_
   refine tS 30 6 (fw:=5) (hy:=by intro wq hRq;obtain ⟨⟨c0,c1⟩,_⟩:=hRq;have hmx:=HMX.out;go_simp;(try with_reducible rfl)) ?_
   refine wpAnyS_ready (rs:=[2]) (by kernel_rfl) (by simp) ?_
   refine stepR (i:=2) rfl (by kernel_rfl) (fun K hK=>?_) (AllReadyS.nil)
   go_simp
   refine (HTR.out _).mono ?_
   rintro e wn ⟨z,hz,rfl,rfl⟩
   have hzl:=HZL.out z hz
   have hzi:(z.size:Int)=(dx:Int):=by omega
   refine hK.out _ _ hR ?_
   clear hK K
   (try simp only [Act.put,bw7,bw8,bw9])
   refine tS 27 3 (fw:=5) (hy:=by intro wq hRq;obtain ⟨⟨c0,c1⟩,_⟩:=hRq;have hmx:=HMX.out;go_simp;(try with_reducible rfl)) ?_
   refine tS 31 7 (fw:=5) (hy:=by intro wq hRq;obtain ⟨⟨c0,c1⟩,_⟩:=hRq;have hmx:=HMX.out;go_simp;(try with_reducible rfl)) ?_
   refine tS 32 8 (fw:=5) (hy:=by intro wq hRq;obtain ⟨⟨c0,c1⟩,_⟩:=hRq;have hmx:=HMX.out;go_simp;(try with_reducible rfl)) ?_
   refine wpAnyS_done (by kernel_rfl) ?_ _
   refine hN.out _ _ ?_
   have hb4:=hR.2
   clear hR HTR HZL HMX hyl
   go_wp2_with fail
   go_roundw
   case rel=>exact ⟨k+1,by omega,by go_num,hb4⟩
   case measure=>simp [intOf];omega
  ·have e:k=L.length:=by omega
   subst e
   have hltI:¬ (L.length:Int) < (L.length:Int):=by omega
   go_wp2_with fail
   go_loopw [36] (fun i wr2=>∃ k:Nat,k≤R.length∧i=.int .i64 k∧Below w.heap.size w wr2) (fun i _=>R.length - (intOf i).toNat)
   case atStart=>exact ⟨0,by omega,rfl,hB⟩
   case round =>
    clear hB hltI
    obtain ⟨k,hk,rfl,hB⟩:=hrel
    by_cases hlt:k < R.length
    ·obtain ⟨b,off,rfl,hcell⟩:=HV.out (fun h0=>by rw [h0] at hlt;simp at hlt)
     have ck:=keep hB (hcell k hlt)
     have hltI:(k:Int) < (R.length:Int):=by omega
     have HNG:=Lib.hid (fun W=>rootNeg_ok (numS R[k]) W (numS_list _))
     have hnn:=HR.out k hlt
     rw [decide_eq_false (show ¬ R[k].num < 0 by omega)] at HNG
     generalize numS R[k]=sq at *
     clear hcell hnn
     go_wp2_with fail
     refine (HNG.out _).mono ?_
     rintro e w2 ⟨rfl,hw2⟩
     subst hw2
     go_wp2_with fail
     go_roundw
     case rel=>exact ⟨k+1,by omega,by go_num,hB⟩
     case measure=>simp [intOf];omega
    ·have e:k=R.length:=by omega
     subst e
     have hltI:¬ (R.length:Int) < (R.length:Int):=by omega
     go_wp2_with fail
     go_ret
     exact ⟨rfl,hB⟩
end Go.Proofs.YthihcjgmlbnapaaGreatDoor
namespace Go.Proofs.YthihcjgmlbnapaaGreatDoor
open Go.RowKit
theorem natdiv_parts (m k:Nat) (hk:0 < k):(((m:Int):Rat) / ((k:Int):Rat)).num=((m / Nat.gcd m k:Nat):Int)∧(((m:Int):Rat) / ((k:Int):Rat)).den=k / Nat.gcd m k:=by
 have h:(((m:Int):Rat) / ((k:Int):Rat))=Rat.divInt (m:Int) (k:Int):=by rw [Rat.divInt_eq_div]
 rw [h,Rat.divInt_ofNat,Rat.num_mkRat,Rat.den_mkRat,if_neg (by omega),if_neg (by omega),Int.natAbs_natCast,Nat.gcd_comm k m]
 exact ⟨(Int.natCast_ediv _ _).symm,rfl⟩
theorem text_natR (m:Nat):ratText ((m:Int):Rat)=Lib.decDigits m:=by rw [ratText_int,itoa_natCast]
theorem sz_natR {m k:Nat} (h:m < 10 ^ k) (hk:1≤k):Sz k ((m:Int):Rat):=sz_int (by simpa using h) hk
theorem isStrs_lit1 (w:World) (q:Rat) (t:TypeId):IsStrs (w.alloc (.cells #[.string (numS q)] t)) (.slice (some ⟨w.heap.size,0,none⟩) 1 1) ([q].map numS):=by
 refine ⟨some ⟨w.heap.size,0,none⟩,1,rfl,fun _=>⟨w.heap.size,0,rfl,fun k hk=>?_⟩⟩
 obtain rfl:k=0:=by simp at hk;omega
 simp [go_sem]
theorem isStrs_lit2 (w:World) (p q:Rat) (t:TypeId):IsStrs (w.alloc (.cells #[.string (numS p),.string (numS q)] t)) (.slice (some ⟨w.heap.size,0,none⟩) 2 2) ([p,q].map numS):=by
 refine ⟨some ⟨w.heap.size,0,none⟩,2,rfl,fun _=>⟨w.heap.size,0,rfl,fun k hk=>?_⟩⟩
 have:k=0∨k=1:=by simp at hk;omega
 rcases this with rfl|rfl<;>simp [go_sem]
def RetRat (b:Bool) (q:Rat) (w:World) (e:Ending) (w':World):Prop:=∃ r:ByteArray,e=.returned (.tuple #[.string r,.bool b,.int .i64 0])∧Hid (b=true→r.data.toList=ratText q)∧Below w.heap.size w w'
def ratioQ (m k:Nat):Rat:=(((rootN (m / Nat.gcd m k):Nat):Int):Rat) / (((rootN (k / Nat.gcd m k):Nat):Int):Rat)
theorem rootRatio_ok (m k:Nat) (a b:ByteArray) (w:World) (hm:m < 10 ^ 90) (hk:k < 10 ^ 90) (hk0:0 < k) (B:Bool) (Q:Rat) (hB:ratioB m k=B) (hQ:ratioQ m k=Q) (hG:Glo w)
  (ha:a.data.toList=Lib.itoa (((m:Int):Rat) / ((k:Int):Rat)).num) (hb:b.data.toList=Lib.decDigits (((m:Int):Rat) / ((k:Int):Rat)).den) :
  Calls Tryz.prog 112 #[.agg #[.string a,.string b]] w (RetRo B Q w):=by
 obtain ⟨p1,p2⟩:=natdiv_parts m k hk0
 have hg0:0 < Nat.gcd m k:=Nat.gcd_pos_of_pos_right _ hk0
 have hb1:m / Nat.gcd m k < 10 ^ 150:=Nat.lt_of_le_of_lt (Nat.div_le_self _ _) (Nat.lt_of_lt_of_le hm (Nat.pow_le_pow_right (by decide) (by decide)))
 have hb2:k / Nat.gcd m k < 10 ^ 150:=Nat.lt_of_le_of_lt (Nat.div_le_self _ _) (Nat.lt_of_lt_of_le hk (Nat.pow_le_pow_right (by decide) (by decide)))
 have hd0:0 < k / Nat.gcd m k:=Nat.div_pos (Nat.le_of_dvd hk0 (Nat.gcd_dvd_right _ _)) hg0
 subst hB hQ
 exact rootOf_ok (m / Nat.gcd m k) (k / Nat.gcd m k) a b w hG (by rw [ha,p1,itoa_natCast]) (by rw [hb,p2]) hd0 hb1 hb2
theorem Ratio_ok (m k:Nat) (s t:ByteArray) (w:World) (hG:Glo w) (hs:s.data.toList=Lib.decDigits m) (ht:t.data.toList=Lib.decDigits k) (hm:m < 10 ^ 90) (hk:k < 10 ^ 90) (hk0:0 < k) :
  Calls Tryz.prog 58 #[.string s,.string t] w (RetRat (ratioB m k) (ratioQ m k) w):=by
 have z1:Sz 90 ((m:Int):Rat):=sz_natR hm (by decide)
 have z2:Sz 90 ((k:Int):Rat):=sz_natR hk (by decide)
 have hs':s.data.toList=ratText ((m:Int):Rat):=by rw [text_natR];exact hs
 have ht':t.data.toList=ratText ((k:Int):Rat):=by rw [text_natR];exact ht
 have es:s=numS ((m:Int):Rat):=numS_of hs'
 have et:t=numS ((k:Int):Rat):=numS_of ht'
 have HCK:=Lib.hid (fun (W:World) (u v:Value) (hG:Glo W) hu hv=>rootCheck_ok [((m:Int):Rat),((k:Int):Rat)] [((m:Int):Rat),((k:Int):Rat)] u v W hG hu hv (fun j h=>by
   have:j=0∨j=1:=by simp at h;omega
   rcases this with rfl|rfl
   ·exact z1
   ·exact z2) (fun j h=>by
   have:j=0∨j=1:=by simp at h;omega
   rcases this with rfl|rfl
   ·show 0≤(m:Int);omega
   ·show 0≤(k:Int);omega) (by simp) (by simp))
 have hnz:(t.toList == [48])=false:=by
  rw [Lib.toList_data,ht]
  have:=dec_ne_zero hk0
  simpa using this
 have HDV:=Lib.hid (fun W hG=>RDiv_ok s t W hG hs' z1 ht' z2 (by decide) (by show 0 < (k:Int);omega))
 have HOF:=Lib.hid (fun (r:ByteArray) W hG hr=>rootOf1_ok (k:=180) (q:=((m:Int):Rat) / ((k:Int):Rat)) r W hG hr (Sz.div z1 z2 (by show 0 < (k:Int);omega)) (by decide))
 obtain ⟨B,hB⟩:∃ B,ratioB m k=B:=⟨_,rfl⟩
 obtain ⟨Q,hQ⟩:∃ Q,ratioQ m k=Q:=⟨_,rfl⟩
 rw [hB,hQ]
 have HRO:=Lib.hid (fun (a b:ByteArray) (W:World) hG ha hb=>rootRatio_ok m k a b W hm hk hk0 B Q hB hQ hG ha hb)
 have HG:=Lib.hid hG
 have I2:=Lib.hid (fun (W:World) (ty:TypeId)=>isStrs_lit2 W ((m:Int):Rat) ((k:Int):Rat) ty)
 rw [← es,← et] at I2
 clear hs ht hs' ht' hG hm hk z1 z2 hB hQ es et
 go_enter Tryz.func58,Tryz.ntmps58
 go_wp2_with fail
 have J1:IsStrs ((w.alloc (.cells #[.string s,.string t] 36)).alloc (.cells #[.string s,.string t] 36)) (.slice (some ⟨w.heap.size,0,none⟩) 2 2) ([((m:Int):Rat),((k:Int):Rat)].map numS):=(I2.out w _).below (bw4 (bw0 _ _) _)
 have J2:IsStrs ((w.alloc (.cells #[.string s,.string t] 36)).alloc (.cells #[.string s,.string t] 36)) (.slice (some ⟨w.heap.size+1,0,none⟩) 2 2) ([((m:Int):Rat),((k:Int):Rat)].map numS):=by
  have h:=I2.out (w.alloc (.cells #[.string s,.string t] 36)) 36
  rw [World.size_alloc] at h;exact h
 refine (HCK.out _ _ _ (HG.out.below qbl) J1 J2).mono ?_
 rintro e w1 ⟨rfl,hB1⟩
 have hb1:Below w.heap.size w w1:=qbl
 clear hB1 HCK I2 J1 J2
 go_wp2_with fail
 refine (HDV.out _ (HG.out.below hb1)).mono ?_
 rintro e w2 ⟨r,hr,rfl,hB2⟩
 have hb2:=below_trans' hb1 hB2
 have HR:=Lib.hid hr
 clear hr hB2 hb1 HDV
 go_wp2_with fail
 refine (HOF.out r _ (HG.out.below hb2) HR.out).mono ?_
 rintro e w3 ⟨a,b,ha,hb,rfl,hB3⟩
 have hb3:=below_trans' hb2 hB3
 have HP:=Lib.hid (HRO.out a b w3 (HG.out.below hb3) ha hb)
 clear ha hb hB3 hb2 HOF HRO
 go_wp2_with fail
 refine HP.out.mono ?_
 rintro e w4 ⟨rr,rfl,hrr,hB4⟩
 have hb4:=below_trans' hb3 hB4
 clear hB4 HP hb3
 go_wp2_with fail
 go_ret3
 exact ⟨rr,rfl,hrr,hb4⟩
end Go.Proofs.YthihcjgmlbnapaaGreatDoor
