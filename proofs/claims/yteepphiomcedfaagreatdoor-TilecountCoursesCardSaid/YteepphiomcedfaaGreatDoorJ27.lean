/- Joined texts: WRatW, W6p, W02w, WShortN. -/
import Derived.Test.YteepphiomcedfaaGreatDoorJ20
import Derived.Test.YteepphiomcedfaaGreatDoorJ19
import Derived.Test.YteepphiomcedfaaGreatDoorJ07
import Derived.Test.YteepphiomcedfaaGreatDoorJ25
import Derived.Test.YteepphiomcedfaaGreatDoorWRes50
set_option maxRecDepth 100000
set_option linter.unusedVariables false
set_option linter.unusedSimpArgs false
set_option maxHeartbeats 6400000
namespace Go.Proofs.YteepphiomcedfaaGreatDoor
open Go.RowKit
theorem Isub_ok (x y:Int) (s t:ByteArray) (w:World) (hG:Glo w) (hs:s.data.toList=Lib.itoa x) (hx:Fit x) (ht:t.data.toList=Lib.itoa y) (hy:Fit y) :
  Calls Tryz.prog 100 #[.string s,.string t] w (RetX (x - y) w):=by
 have hsz:=fit_size hs hx
 have htz:=fit_size ht hy
 have HS:=Lib.hid hs
 have HT:=Lib.hid ht
 have HG:=Lib.hid hG
 have HX:=Lib.hid hx
 have HY:=Lib.hid hy
 by_cases hb:s.size≤18∧t.size≤18
 ·obtain ⟨hb1,hb2⟩:=hb
  have h1:=lt18 hs hb1
  have h2:=lt18 ht hb2
  clear hs ht hG hx hy
  go_enter Tryz.func100,Tryz.ntmps100
  go_wp2_with fail
  refine (Iboth_ok x y s t _ HS.out HX.out HT.out HY.out).mono ?_
  rintro e w1 ⟨rfl,hB1⟩
  go_wp2_with fail
  refine (Ismall_ok x y s t _ HS.out hb1 HT.out hb2).mono ?_
  rintro e w2 ⟨rfl,hB2⟩
  go_wp2_with fail
  refine (itoa_any (x - y) (by omega) (by omega) _ (HG.out.below qbl)).mono ?_
  rintro e w3 ⟨r,hr,rfl,hB3⟩
  have HR:=Lib.hid hr
  clear hr
  go_wp2_with fail
  go_ret2
  exact RetI.x ⟨r,HR.out,rfl,qbl⟩ (fit18 (by omega))
 ·clear hs ht hG hx hy
  go_enter Tryz.func100,Tryz.ntmps100
  go_wp2_with fail
  refine (Iboth_ok x y s t _ HS.out HX.out HT.out HY.out).mono ?_
  rintro e w1 ⟨rfl,hB1⟩
  go_wp2_with fail
  refine (small_long s t _ (by omega)).mono ?_
  rintro e w2 ⟨rfl,hB2⟩
  have hb2:Below w.heap.size w w2:=qbl
  clear hB1 hB2
  go_wp2_with fail
  refine (iread_ok y t _ HT.out (by omega)).mono ?_
  rintro e w3 ⟨v2,rfl,hv2,hB3⟩
  have hb3:Below w.heap.size w w3:=below_trans' hb2 hB3
  obtain ⟨m2,a2,l2,c2,n2,rfl,i2,d2,z2,q2⟩:=hv2.parts
  have HV2:Hid (IsBig w3 (.agg #[.bool (!m2),.slice a2 l2.length c2]) (-y) ((t.size+8) / 9)):=Lib.hid ⟨!m2,_,l2,n2,rfl,i2,d2,by rw [sgnV_not,z2],q2⟩
  clear hv2 hB3 i2 d2 z2 q2
  go_wp2_with fail
  have hR:(w3.alloc (.cells #[.bool (!m2),.slice a2 l2.length c2] 151)).drew.cell? ⟨w3.heap.size,0,none⟩=some (.bool (!m2))∧(w3.alloc (.cells #[.bool (!m2),.slice a2 l2.length c2] 151)).drew.cell? ⟨w3.heap.size,1,none⟩=some (.slice a2 l2.length c2)∧Below w3.heap.size w3 (w3.alloc (.cells #[.bool (!m2),.slice a2 l2.length c2] 151)).drew:=⟨by simp [go_sem],by simp [go_sem],qbl⟩
  refine region_S (F:=[]) (R:=(fun w'=>w'.cell? ⟨w3.heap.size,0,none⟩=some (.bool (!m2))∧w'.cell? ⟨w3.heap.size,1,none⟩=some (.slice a2 l2.length c2)∧Below w3.heap.size w3 w')) 9 #[false,false,false,false,false,false,false,false,false] (by kernel_rfl) (by kernel_rfl) (by kernel_rfl) (fun _ _ _ _ _ h=>h) (fun Q' hQ' hN=>?_)
  generalize (w3.alloc (.cells #[.bool (!m2),.slice a2 l2.length c2] 151)).drew=wd at *
  refine tS 35 0 (hy:=by intro wq hRq;obtain ⟨c0,c1,_⟩:=hRq;go_simp;(try with_reducible rfl)) ?_
  refine tS 37 2 (hy:=by intro wq hRq;obtain ⟨c0,c1,_⟩:=hRq;go_simp;(try with_reducible rfl)) ?_
  refine wpAnyS_ready (rs:=[1]) (by kernel_rfl) (by simp) ?_
  refine stepR (i:=1) rfl (by kernel_rfl) (fun K hK=>?_) (AllReadyS.nil)
  go_simp
  refine (iread_ok x s _ HS.out (by omega)).mono ?_
  rintro e wn ⟨v1,rfl,hv1,hB'⟩
  have hR:wn.cell? ⟨w3.heap.size,0,none⟩=some (.bool (!m2))∧wn.cell? ⟨w3.heap.size,1,none⟩=some (.slice a2 l2.length c2)∧Below w3.heap.size w3 wn:=⟨keep hB' hR.1,keep hB' hR.2.1,below_trans' hR.2.2 hB'⟩
  have HV1:=Lib.hid hv1
  obtain ⟨m1,a1,l1,c1,n1,rfl,_⟩:=hv1.parts
  clear hv1 hB'
  refine hK.out _ _ hR ?_
  clear hK K
  (try simp only [Act.put,bw7,bw8,bw9])
  refine wpAnyS_ready (rs:=[3]) (by kernel_rfl) (by simp) ?_
  refine stepR (i:=3) rfl (by kernel_rfl) (fun K hK=>?_) (AllReadyS.nil)
  go_simp
  refine (addL_ok _ _ _ (HV1.out.below qbl) (HV2.out.below hR.2.2) (by omega) (by omega)).mono ?_
  rintro e wm ⟨v3,rfl,hv3,hB'⟩
  have hR:wm.cell? ⟨w3.heap.size,0,none⟩=some (.bool (!m2))∧wm.cell? ⟨w3.heap.size,1,none⟩=some (.slice a2 l2.length c2)∧Below w3.heap.size w3 wm:=⟨keep hB' hR.1,keep hB' hR.2.1,below_trans' hR.2.2 hB'⟩
  rw [← Int.sub_eq_add_neg] at hv3
  have HV3:=Lib.hid hv3
  obtain ⟨m3,a3,l3,c3,n3,rfl,_⟩:=hv3.parts
  clear hv3 hB' HV1
  refine hK.out _ _ hR ?_
  clear hK K
  (try simp only [Act.put,bw7,bw8,bw9])
  refine wpAnyS_ready (rs:=[4]) (by kernel_rfl) (by simp) ?_
  refine stepR (i:=4) rfl (by kernel_rfl) (fun K hK=>?_) (AllReadyS.nil)
  go_simp
  refine (result_ok _ _ (HG.out.below (below_trans' hb3 hR.2.2)) (HV3.out.below qbl) (by omega)).mono ?_
  intro e wk hr
  obtain ⟨r,c,rfl,hr,hB'⟩:=retX_val hr
  have HR:=Lib.hid (hr.trans (below_trans' hb3 hR.2.2))
  have hR:wk.cell? ⟨w3.heap.size,0,none⟩=some (.bool (!m2))∧wk.cell? ⟨w3.heap.size,1,none⟩=some (.slice a2 l2.length c2)∧Below w3.heap.size w3 wk:=⟨keep hB' hR.1,keep hB' hR.2.1,below_trans' hR.2.2 hB'⟩
  clear hr hB' HV3
  refine hK.out _ _ hR ?_
  clear hK K
  (try simp only [Act.put,bw7,bw8,bw9])
  refine tS 40 5 (hy:=by intro wq hRq;obtain ⟨c0,c1,_⟩:=hRq;go_simp;(try with_reducible rfl)) ?_
  refine tS 41 6 (hy:=by intro wq hRq;obtain ⟨c0,c1,_⟩:=hRq;go_simp;(try with_reducible rfl)) ?_
  refine tS 4 7 (hy:=by intro wq hRq;obtain ⟨c0,c1,_⟩:=hRq;go_simp;(try with_reducible rfl)) ?_
  refine tS 5 8 (hy:=by intro wq hRq;obtain ⟨c0,c1,_⟩:=hRq;go_simp;(try with_reducible rfl)) ?_
  refine wpAnyS_done (by kernel_rfl) ?_ _
  refine hN.out _ _ ?_
  clear hR
  go_wp2_with fail
  go_ret2
  exact HR.out
def RetT (Q:ByteArray→Int→Prop) (w:World) (e:Ending) (w':World):Prop:=∃ (v:ByteArray) (c:Int),e=.returned (.tuple #[.string v,.int .i64 c])∧Hid (Q v c)∧Below w.heap.size w w'
def NumL (q:Rat) (v:ByteArray) (c:Int):Prop:=(c=0∧v.data.toList=ratText q∧Sz 300 q)∨(v=⟨#[]⟩∧c=4)
theorem small_sz {q:Rat} (h:Small q):Sz 8 q:=⟨by have:=h.1;omega,by have:=h.2;omega⟩
theorem Sz.neg' {k:Nat} {q:Rat} (h:Sz k q):Sz k (-q):=⟨by rw [Rat.neg_num,Int.natAbs_neg];exact h.1,by rw [Rat.neg_den];exact h.2⟩
theorem rat_sub (p q:Rat):Rat.divInt (p.num * q.den - q.num * p.den) ((p.den:Int) * q.den)=p - q:=by rw [Rat.sub_def',← Rat.divInt_ofNat];simp
theorem RetN.nl {q:Rat} {w:World} {e:Ending} {w':World} (h:RetN q w e w') (hq:Sz 300 q):RetT (NumL q) w e w':=by
 obtain ⟨r,hr,he,hB⟩:=h
 exact ⟨r,0,he,Lib.hid (.inl ⟨rfl,hr,hq⟩),hB⟩
def RetCW (x y:Int) (w:World) (e:Ending) (w':World):Prop:=∃ (u v:ByteArray) (c:Int),e=.returned (.tuple #[.string u,.string v,.int .i64 c])∧Hid (c=0→u.data.toList=Lib.itoa x∧v.data.toList=Lib.itoa y∧Fit x∧Fit y)∧(c=0∨c=4)∧Below w.heap.size w w'
theorem crossedW_ok (xn yn:Int) (xd yd:Nat) (a b c d:ByteArray) (w:World) (hG:Glo w) (ha:a.data.toList=Lib.itoa xn) (hb:b.data.toList=Lib.decDigits xd) (hc:c.data.toList=Lib.itoa yn) (hd:d.data.toList=Lib.decDigits yd)
  (fa:Fit xn) (fb:Fit (xd:Int)) (fc:Fit yn) (fd:Fit (yd:Int)) :
  Calls Tryz.prog 73 #[.agg #[.string a,.string b],.agg #[.string c,.string d]] w (RetCW (xn * yd) (yn * xd) w):=by
 rw [← itoa_natCast] at hb hd
 have HA:=Lib.hid ha
 have HB:=Lib.hid hb
 have HC:=Lib.hid hc
 have HD:=Lib.hid hd
 have HG:=Lib.hid hG
 clear hG ha hb hc hd
 go_enter Tryz.func73,Tryz.ntmps73
 go_wp2_with fail
 refine (Imul_ok xn yd a d _ (HG.out.below qbl) HA.out fa HD.out fd).mono ?_
 intro e w1 hrx
 by_cases f1:Fit (xn * yd)
 ·obtain ⟨r,hr,rfl,hB1⟩:=hrx.1 f1
  have HR:=Lib.hid hr
  clear hr hrx
  have c1:w1.cell? ⟨w.heap.size,1,none⟩=some (.string b):=keep hB1 (by simp [go_sem])
  have c2:w1.cell? ⟨w.heap.size+1,0,none⟩=some (.string c):=keep hB1 (by simp [go_sem])
  have z1:=lt_of_cell c1
  have z2:=lt_of_cell c2
  have hB1':Below w.heap.size w w1:=qbl
  go_wp2_with fail
  refine (Imul_ok yn xd c b _ (HG.out.below qbl) HC.out fc HB.out fb).mono ?_
  intro e w2 hrx
  by_cases f2:Fit (yn * xd)
  ·obtain ⟨s,hs,rfl,hB2⟩:=hrx.1 f2
   have HS:=Lib.hid hs
   clear hs hrx
   have hB2':Below w.heap.size w w2:=qbl
   go_wp2_with fail
   go_ret3
   exact ⟨r,s,0,rfl,Lib.hid (fun _=>⟨HR.out,HS.out,f1,f2⟩),.inl rfl,qbl⟩
  ·obtain ⟨rfl,hB2⟩:=hrx.2 f2
   clear hrx
   have hB2':Below w.heap.size w w2:=qbl
   go_wp2_with fail
   go_ret3
   exact ⟨_,_,4,rfl,Lib.hid (fun h=>by cases h),.inr rfl,qbl⟩
 ·obtain ⟨rfl,hB1⟩:=hrx.2 f1
  clear hrx
  go_wp2_with fail
  go_ret3
  exact ⟨_,_,4,rfl,Lib.hid (fun h=>by cases h),.inr rfl,qbl⟩
def CombX (G:Nat) (z:Int) (x y:Int):Prop:=∀ (s t:ByteArray) (w:World),Glo w→s.data.toList=Lib.itoa x→t.data.toList=Lib.itoa y→Fit x→Fit y→Calls Tryz.prog G #[.string s,.string t] w (RetX z w)
theorem nl_divInt {n d:Int} (hd:0 < d) (f1:Fit n) (f2:Fit d):Sz 300 (Rat.divInt n d):=sz_divInt hd ((fit_iff n).1 f1) ((fit_iff d).1 f2)
theorem combW_ok {xn yn z:Int} {xd yd:Nat} (G bx:Nat) (a b c d:ByteArray) (w:World) (hG:Glo w) (hbx:w.cell? ⟨bx,0,none⟩=some (.func (.func G) #[] #[])) (hE:∀ args w,(callFunc G args).run Tryz.prog w=.ok (.enter G args) w) (ha:a.data.toList=Lib.itoa xn) (hb:b.data.toList=Lib.decDigits xd) (hc:c.data.toList=Lib.itoa yn) (hd:d.data.toList=Lib.decDigits yd)
  (fa:Fit xn) (fb:Fit (xd:Int)) (fc:Fit yn) (fd:Fit (yd:Int)) (hx:0 < xd) (hy:0 < yd) (hC:CombX G z (xn * yd) (yn * xd)) :
  Calls Tryz.prog 124 #[.agg #[.string a,.string b],.agg #[.string c,.string d],.pointer (some ⟨bx,0,none⟩)] w (RetT (NumL (Rat.divInt z ((xd:Int) * yd))) w):=by
 have HA:=Lib.hid ha
 have HB:=Lib.hid hb
 have HB':Hid (b.data.toList=Lib.itoa (xd:Int)):=Lib.hid (by rw [itoa_natCast];exact hb)
 have HC:=Lib.hid hc
 have HD:=Lib.hid hd
 have HD':Hid (d.data.toList=Lib.itoa (yd:Int)):=Lib.hid (by rw [itoa_natCast];exact hd)
 have HG:=Lib.hid hG
 have HCO:=Lib.hid hC
 have hp:0 < (xd:Int) * yd:=Int.mul_pos (by omega) (by omega)
 have zx:=lt_of_cell hbx
 clear hG ha hb hc hd hC
 go_enter Tryz.func124,Tryz.ntmps124
 go_wp2_with fail
 refine (crossedW_ok xn yn xd yd a b c d _ (HG.out.below qbl) HA.out HB.out HC.out HD.out fa fb fc fd).mono ?_
 rintro e w1 ⟨u,v,k,rfl,huv,hk,hB1⟩
 have hb1:Below w.heap.size w w1:=qbl
 rcases hk with rfl|rfl
 ·obtain ⟨hu,hv,f1,f2⟩:=huv.out rfl
  have HU:=Lib.hid hu
  have HV:=Lib.hid hv
  have k1:=keep hb1 hbx
  have c1:w1.cell? ⟨w.heap.size,1,none⟩=some (.string b):=keep hB1 (by simp [go_sem])
  have c2:w1.cell? ⟨w.heap.size+1,1,none⟩=some (.string d):=keep hB1 (by simp [go_sem])
  clear hB1 huv hu hv
  go_wp2_with fail
  refine (HCO.out u v _ (HG.out.below hb1) HU.out HV.out f1 f2).mono ?_
  intro e w2 hrz
  by_cases f3:Fit z
  ·obtain ⟨r,hr,rfl,hB2⟩:=hrz.1 f3
   have HR:=Lib.hid hr
   have hb2:Below w.heap.size w w2:=below_trans' hb1 hB2
   have c1':=keep hB2 c1
   have c2':=keep hB2 c2
   clear hr hB2 hrz
   go_wp2_with fail
   refine (Imul_ok xd yd b d _ (HG.out.below qbl) HB'.out fb HD'.out fd).mono ?_
   intro e w3 hrx
   by_cases f4:Fit ((xd:Int) * yd)
   ·obtain ⟨s,hs,rfl,hB3⟩:=hrx.1 f4
    have HS:=Lib.hid hs
    have hb3:Below w.heap.size w w3:=below_trans' hb2 hB3
    clear hs hB3 hrx
    go_wp2_with fail
    refine (Qnumber_ok z ((xd:Int) * yd) r s _ (HG.out.below qbl) HR.out f3 HS.out f4 hp).mono ?_
    rintro e w4 ⟨q,hq,rfl,hB4⟩
    have HQ:=Lib.hid hq
    have hb4:Below w.heap.size w w4:=below_trans' hb3 hB4
    clear hq hB4
    go_wp2_with fail
    go_ret2
    exact ⟨q,0,rfl,Lib.hid (.inl ⟨rfl,HQ.out,nl_divInt hp f3 f4⟩),hb4⟩
   ·obtain ⟨rfl,hB3⟩:=hrx.2 f4
    have hb3:Below w.heap.size w w3:=below_trans' hb2 hB3
    clear hB3 hrx
    go_wp2_with fail
    go_ret2
    exact ⟨_,4,rfl,Lib.hid (.inr ⟨rfl,rfl⟩),hb3⟩
  ·obtain ⟨rfl,hB2⟩:=hrz.2 f3
   have hb2:Below w.heap.size w w2:=below_trans' hb1 hB2
   clear hB2 hrz
   go_wp2_with fail
   go_ret2
   exact ⟨_,4,rfl,Lib.hid (.inr ⟨rfl,rfl⟩),hb2⟩
 ·clear huv
  go_wp2_with fail
  go_ret2
  exact ⟨_,4,rfl,Lib.hid (.inr ⟨rfl,rfl⟩),hb1⟩
theorem mulW_ok {xn yn:Int} {xd yd:Nat} (a b c d:ByteArray) (w:World) (hG:Glo w) (ha:a.data.toList=Lib.itoa xn) (hb:b.data.toList=Lib.decDigits xd) (hc:c.data.toList=Lib.itoa yn) (hd:d.data.toList=Lib.decDigits yd)
  (fa:Fit xn) (fb:Fit (xd:Int)) (fc:Fit yn) (fd:Fit (yd:Int)) (hx:0 < xd) (hy:0 < yd) :
  Calls Tryz.prog 132 #[.agg #[.string a,.string b],.agg #[.string c,.string d]] w (RetT (NumL (Rat.divInt (xn * yn) ((xd:Int) * yd))) w):=by
 rw [← itoa_natCast] at hb hd
 have HA:=Lib.hid ha
 have HB:=Lib.hid hb
 have HC:=Lib.hid hc
 have HD:=Lib.hid hd
 have HG:=Lib.hid hG
 have hp:0 < (xd:Int) * yd:=Int.mul_pos (by omega) (by omega)
 clear hG ha hb hc hd
 go_enter Tryz.func132,Tryz.ntmps132
 go_wp2_with fail
 refine (Imul_ok xn yn a c _ (HG.out.below qbl) HA.out fa HC.out fc).mono ?_
 intro e w1 hrx
 by_cases f1:Fit (xn * yn)
 ·obtain ⟨r,hr,rfl,hB1⟩:=hrx.1 f1
  have HR:=Lib.hid hr
  have c1:w1.cell? ⟨w.heap.size,1,none⟩=some (.string b):=keep hB1 (by simp [go_sem])
  have c2:w1.cell? ⟨w.heap.size+1,1,none⟩=some (.string d):=keep hB1 (by simp [go_sem])
  have z1:=lt_of_cell c1
  have z2:=lt_of_cell c2
  have hb1:Below w.heap.size w w1:=qbl
  clear hr hB1 hrx
  go_wp2_with fail
  refine (Imul_ok xd yd b d _ (HG.out.below qbl) HB.out fb HD.out fd).mono ?_
  intro e w2 hrx
  by_cases f2:Fit ((xd:Int) * yd)
  ·obtain ⟨s,hs,rfl,hB2⟩:=hrx.1 f2
   have HS:=Lib.hid hs
   have hb2:Below w.heap.size w w2:=qbl
   clear hs hB2 hrx
   go_wp2_with fail
   refine (Qnumber_ok (xn * yn) ((xd:Int) * yd) r s _ (HG.out.below qbl) HR.out f1 HS.out f2 hp).mono ?_
   rintro e w3 ⟨v,hv,rfl,hB3⟩
   have HV:=Lib.hid hv
   have hb3:Below w.heap.size w w3:=qbl
   clear hv hB3
   go_wp2_with fail
   go_ret2
   exact ⟨v,0,rfl,Lib.hid (.inl ⟨rfl,HV.out,nl_divInt hp f1 f2⟩),hb3⟩
  ·obtain ⟨rfl,hB2⟩:=hrx.2 f2
   have hb2:Below w.heap.size w w2:=qbl
   clear hB2 hrx
   go_wp2_with fail
   go_ret2
   exact ⟨_,4,rfl,Lib.hid (.inr ⟨rfl,rfl⟩),hb2⟩
 ·obtain ⟨rfl,hB1⟩:=hrx.2 f1
  clear hrx
  go_wp2_with fail
  go_ret2
  exact ⟨_,4,rfl,Lib.hid (.inr ⟨rfl,rfl⟩),qbl⟩
theorem both_capT {p q:Rat} {Q:ByteArray→Int→Prop} (F bx:Nat) (v0:Value) (s t:ByteArray) (w:World) (hG:Glo w) (hbx:w.cell? ⟨bx,0,none⟩=some v0)
  (hs:∀ W,Glo W→Calls Tryz.prog 72 #[.string s] W (RetP p (.int .i64 0) W)) (ht:∀ W,Glo W→Calls Tryz.prog 72 #[.string t] W (RetP q (.int .i64 0) W))
  (hE:∀ args w,(callFunc F args).run Tryz.prog w=.ok (.enter F args) w)
  (hF:∀ (a b c d:ByteArray) W,Glo W→W.cell? ⟨bx,0,none⟩=some v0→a.data.toList=Lib.itoa p.num→b.data.toList=Lib.decDigits p.den→c.data.toList=Lib.itoa q.num→d.data.toList=Lib.decDigits q.den→Calls Tryz.prog F #[.agg #[.string a,.string b],.agg #[.string c,.string d],.pointer (some ⟨bx,0,none⟩)] W (RetT Q W)) :
  Calls Tryz.prog 63 #[.string s,.string t,.func (.func F) #[] #[.pointer (some ⟨bx,0,none⟩)]] w (RetT Q w):=by
 have HS:=Lib.hid hs
 have HT:=Lib.hid ht
 have HG:=Lib.hid hG
 have HF:=Lib.hid hF
 have HBX:=Lib.hid hbx
 clear hs ht hG hF hbx
 go_enter Tryz.func63,Tryz.ntmps63
 go_wp2_with fail
 refine (HS.out _ (HG.out.below qbl)).mono ?_
 rintro e w1 ⟨a,b,ha,hb,rfl,hB1⟩
 have hb1:Below w.heap.size w w1:=qbl
 clear hB1
 go_wp2_with fail
 refine (HT.out _ (HG.out.below qbl)).mono ?_
 rintro e w2 ⟨c,d,hc,hd,rfl,hB2⟩
 have hb2:Below w.heap.size w w2:=qbl
 have c1:w2.cell? ⟨w1.heap.size,0,none⟩=some (.string a):=keep hB2 (by simp [go_sem])
 have c2:w2.cell? ⟨w1.heap.size,1,none⟩=some (.string b):=keep hB2 (by simp [go_sem])
 have z1:=lt_of_cell c1
 clear hB2
 go_wp2_with fail
 refine (HF.out a b c d _ (HG.out.below qbl) (keep (show Below w.heap.size w _ from qbl) HBX.out) ha.out hb.out hc.out hd.out).mono ?_
 rintro e w3 ⟨v,k,rfl,HV,hB3⟩
 have hb3:Below w.heap.size w w3:=qbl
 clear hB3
 go_wp2_with fail
 go_ret2
 exact ⟨v,k,rfl,HV,hb3⟩
theorem both_genT {p q:Rat} {Q:ByteArray→Int→Prop} (F:Nat) (s t:ByteArray) (w:World) (hG:Glo w)
  (hs:∀ W,Glo W→Calls Tryz.prog 72 #[.string s] W (RetP p (.int .i64 0) W)) (ht:∀ W,Glo W→Calls Tryz.prog 72 #[.string t] W (RetP q (.int .i64 0) W))
  (hE:∀ args w,(callFunc F args).run Tryz.prog w=.ok (.enter F args) w)
  (hF:∀ (a b c d:ByteArray) W,Glo W→a.data.toList=Lib.itoa p.num→b.data.toList=Lib.decDigits p.den→c.data.toList=Lib.itoa q.num→d.data.toList=Lib.decDigits q.den→Calls Tryz.prog F #[.agg #[.string a,.string b],.agg #[.string c,.string d]] W (RetT Q W)) :
  Calls Tryz.prog 63 #[.string s,.string t,.func (.func F) #[] #[]] w (RetT Q w):=by
 have HS:=Lib.hid hs
 have HT:=Lib.hid ht
 have HG:=Lib.hid hG
 have HF:=Lib.hid hF
 clear hs ht hG hF
 go_enter Tryz.func63,Tryz.ntmps63
 go_wp2_with fail
 refine (HS.out _ (HG.out.below qbl)).mono ?_
 rintro e w1 ⟨a,b,ha,hb,rfl,hB1⟩
 have hb1:Below w.heap.size w w1:=qbl
 clear hB1
 go_wp2_with fail
 refine (HT.out _ (HG.out.below qbl)).mono ?_
 rintro e w2 ⟨c,d,hc,hd,rfl,hB2⟩
 have hb2:Below w.heap.size w w2:=qbl
 have c1:w2.cell? ⟨w1.heap.size,0,none⟩=some (.string a):=keep hB2 (by simp [go_sem])
 have c2:w2.cell? ⟨w1.heap.size,1,none⟩=some (.string b):=keep hB2 (by simp [go_sem])
 have z1:=lt_of_cell c1
 clear hB2
 go_wp2_with fail
 refine (HF.out a b c d _ (HG.out.below qbl) ha.out hb.out hc.out hd.out).mono ?_
 rintro e w3 ⟨v,k,rfl,HV,hB3⟩
 have hb3:Below w.heap.size w w3:=qbl
 clear hB3
 go_wp2_with fail
 go_ret2
 exact ⟨v,k,rfl,HV,hb3⟩
theorem RAddW_ok {p q:Rat} (s t:ByteArray) (w:World) (hG:Glo w) (hs:s.data.toList=ratText p) (hp:Sz 300 p) (ht:t.data.toList=ratText q) (hq:Sz 300 q) :
  Calls Tryz.prog 19 #[.string s,.string t] w (RetT (NumL (p+q)) w):=by
 by_cases hsm:Small p∧Small q
 ·refine (Add_small s t w hG hs hsm.1 ht hsm.2).mono fun e w' h=>h.nl ?_
  exact (Sz.mono (a:=8+8+1) (Sz.add (small_sz hsm.1) (small_sz hsm.2)) (by omega))
 ·have hC:CombX 65 (p.num * q.den+q.num * p.den) (p.num * q.den) (q.num * p.den):=fun s t w hG h1 h2 f1 f2=>Iadd_ok _ _ s t w hG h1 f1 h2 f2
  have HQ:=Lib.hid (fun W=>quick_no 62 s t W hs ht hp (show 300≤300 by omega) hq (show 300≤300 by omega) hsm)
  have HB:=Lib.hid (fun (bx:Nat) (W:World) (hG:Glo W) (hbx:W.cell? ⟨bx,0,none⟩=some (.func (.func 65) #[] #[]))=>both_capT (Q:=NumL (p+q)) 124 bx _ s t W hG hbx (fun W hG=>read_any s W hG hs hp (by omega)) (fun W hG=>read_any t W hG ht hq (by omega)) (enters_of Tryz.func124 (by kernel_rfl) rfl)
   (fun x y u v W hG hb h1 h2 h3 h4=>by rw [← rat_add];exact combW_ok 65 bx x y u v W hG hb (enters_of Tryz.func65 (by kernel_rfl) rfl) h1 h2 h3 h4 (hp.fn (by omega)) (hp.fd (by omega)) (hq.fn (by omega)) (hq.fd (by omega)) p.den_pos q.den_pos hC))
  have HG:=Lib.hid hG
  clear hs ht hG hC hp hq
  go_enter Tryz.func19,Tryz.ntmps19
  go_wp2_with fail
  refine (HQ.out _).mono ?_
  rintro e w1 ⟨rfl,hB1⟩
  go_wp2_with fail
  refine (combined_any _ _).mono ?_
  rintro e w2 ⟨rfl,rfl⟩
  go_wp2_with fail
  refine (HB.out _ _ (HG.out.below qbl) (by simp [go_sem])).mono ?_
  rintro e w3 ⟨r,k,rfl,HR,hB3⟩
  have hb3:Below w.heap.size w w3:=qbl
  clear hB3
  go_wp2_with fail
  go_ret2
  exact ⟨r,k,rfl,HR,hb3⟩
theorem RSubW_ok {p q:Rat} (s t:ByteArray) (w:World) (hG:Glo w) (hs:s.data.toList=ratText p) (hp:Sz 300 p) (ht:t.data.toList=ratText q) (hq:Sz 300 q) :
  Calls Tryz.prog 43 #[.string s,.string t] w (RetT (NumL (p - q)) w):=by
 by_cases hsm:Small p∧Small q
 ·refine (Sub_small s t w hG hs hsm.1 ht hsm.2).mono fun e w' h=>h.nl ?_
  exact (Sz.mono (a:=8+8+1) (by rw [Rat.sub_eq_add_neg];exact Sz.add (small_sz hsm.1) (Sz.neg' (small_sz hsm.2))) (by omega))
 ·have hC:CombX 100 (p.num * q.den - q.num * p.den) (p.num * q.den) (q.num * p.den):=fun s t w hG h1 h2 f1 f2=>Isub_ok _ _ s t w hG h1 f1 h2 f2
  have HQ:=Lib.hid (fun W=>quick_no 99 s t W hs ht hp (show 300≤300 by omega) hq (show 300≤300 by omega) hsm)
  have HB:=Lib.hid (fun (bx:Nat) (W:World) (hG:Glo W) (hbx:W.cell? ⟨bx,0,none⟩=some (.func (.func 100) #[] #[]))=>both_capT (Q:=NumL (p - q)) 124 bx _ s t W hG hbx (fun W hG=>read_any s W hG hs hp (by omega)) (fun W hG=>read_any t W hG ht hq (by omega)) (enters_of Tryz.func124 (by kernel_rfl) rfl)
   (fun x y u v W hG hb h1 h2 h3 h4=>by rw [← rat_sub];exact combW_ok 100 bx x y u v W hG hb (enters_of Tryz.func100 (by kernel_rfl) rfl) h1 h2 h3 h4 (hp.fn (by omega)) (hp.fd (by omega)) (hq.fn (by omega)) (hq.fd (by omega)) p.den_pos q.den_pos hC))
  have HG:=Lib.hid hG
  clear hs ht hG hC hp hq
  go_enter Tryz.func43,Tryz.ntmps43
  go_wp2_with fail
  refine (HQ.out _).mono ?_
  rintro e w1 ⟨rfl,hB1⟩
  go_wp2_with fail
  refine (combined_any _ _).mono ?_
  rintro e w2 ⟨rfl,rfl⟩
  go_wp2_with fail
  refine (HB.out _ _ (HG.out.below qbl) (by simp [go_sem])).mono ?_
  rintro e w3 ⟨r,k,rfl,HR,hB3⟩
  have hb3:Below w.heap.size w w3:=qbl
  clear hB3
  go_wp2_with fail
  go_ret2
  exact ⟨r,k,rfl,HR,hb3⟩
theorem RMulW_ok {p q:Rat} (s t:ByteArray) (w:World) (hG:Glo w) (hs:s.data.toList=ratText p) (hp:Sz 300 p) (ht:t.data.toList=ratText q) (hq:Sz 300 q) :
  Calls Tryz.prog 68 #[.string s,.string t] w (RetT (NumL (p * q)) w):=by
 by_cases hsm:Small p∧Small q
 ·refine (Mul_small s t w hG hs hsm.1 ht hsm.2).mono fun e w' h=>h.nl ?_
  exact (Sz.mono (a:=8+8) (Sz.mul (small_sz hsm.1) (small_sz hsm.2)) (by omega))
 ·have HQ:=Lib.hid (fun W=>quick_no 131 s t W hs ht hp (show 300≤300 by omega) hq (show 300≤300 by omega) hsm)
  have HB:=Lib.hid (fun (W:World) (hG:Glo W)=>both_genT (Q:=NumL (p * q)) 132 s t W hG (fun W hG=>read_any s W hG hs hp (by omega)) (fun W hG=>read_any t W hG ht hq (by omega)) (enters_of Tryz.func132 (by kernel_rfl) rfl)
   (fun x y u v W hG h1 h2 h3 h4=>by rw [← rat_mul];exact mulW_ok x y u v W hG h1 h2 h3 h4 (hp.fn (by omega)) (hp.fd (by omega)) (hq.fn (by omega)) (hq.fd (by omega)) p.den_pos q.den_pos))
  have HG:=Lib.hid hG
  clear hs ht hG hp hq
  go_enter Tryz.func68,Tryz.ntmps68
  go_wp2_with fail
  refine (HQ.out _).mono ?_
  rintro e w1 ⟨rfl,hB1⟩
  go_wp2_with fail
  refine (HB.out _ (HG.out.below qbl)).mono ?_
  rintro e w3 ⟨r,k,rfl,HR,hB3⟩
  have hb3:Below w.heap.size w w3:=qbl
  clear hB3
  go_wp2_with fail
  go_ret2
  exact ⟨r,k,rfl,HR,hb3⟩
end Go.Proofs.YteepphiomcedfaaGreatDoor
namespace Go.Proofs.YteepphiomcedfaaGreatDoor.R6
open Go.RowKit Go.Shelf
theorem check6_long {n:Nat} (s:ByteArray) (w:World) (hs:s.data.toList=Lib.decDigits n) (hl:300 < s.size) (hl1:s.size≤1000):Calls Tryz.prog 230 #[.string s] w fun e w'=>e=.returned (.int .i64 4)∧w'=w:=by
 have z1:=dec_pos hs
 have h0:(0:Int) < (s.size:Int):=by omega
 have hz:((0:Int) == (s.size:Int))=false:=by rw [beq_eq_false_iff_ne];omega
 have h45:=dec_no45 hs (show 0 < s.size by omega)
 have HS:=Lib.hid (fun k hk=>dec_dig (k:=k) hs hk)
 have hw0:IntKind.i64.wrap ((s.size:Int) - 0)=(s.size:Int):=by rw [Int.sub_zero];exact IntWalk.i64_in _ (by omega)
 have hl2:(300:Int) < (s.size:Int):=by omega
 have hlead:Hid (1 < s.size→((s[0].toNat:Int) == 48)=false):=Lib.hid (fun h=>dec_lead hs (by omega) h)
 clear hs
 by_cases h1:1 < s.size
 ·have h1':(1:Int) < (s.size:Int):=by omega
  have h48:=hlead.out h1
  go_enter Tryz.func230,Tryz.ntmps230
  go_wp2_with fail
  go_loopw [4] (fun i wr=>∃ k:Nat,k≤s.size∧i=.int .i64 k∧wr=w) (fun i _=>s.size - (intOf i).toNat)
  case atStart=>exact ⟨0,by omega,rfl,rfl⟩
  case round =>
   obtain ⟨k,hk,rfl,hwr⟩:=hrel
   subst wr
   by_cases hlt:k < s.size
   ·obtain ⟨d1,d2⟩:=HS.out k hlt
    go_wp2_with fail
    go_roundw
    case rel=>exact ⟨k+1,by omega,by go_num,by trivial⟩
    case measure=>simp [intOf];omega
   ·go_wp2_with fail
    go_ret
    exact ⟨rfl,rfl⟩
 ·omega
theorem check6_negl {n:Nat} (s:ByteArray) (w:World) (hs:s.data.toList=45::Lib.decDigits n) (hn:0 < n) (hl:301 < s.size) (hl1:s.size≤1000):Calls Tryz.prog 230 #[.string s] w fun e w'=>e=.returned (.int .i64 4)∧w'=w:=by
 have hz:=neg_size hs
 have hd:1≤(Lib.decDigits n).length:=List.length_pos_iff.2 (decDigits_ne n)
 have h0:(0:Int) < (s.size:Int):=by omega
 have hz1:((1:Int) == (s.size:Int))=false:=by rw [beq_eq_false_iff_ne];omega
 have h0N:0 < s.size:=by omega
 have h1N:1 < s.size:=by omega
 have h45:=neg_zero hs h0N
 have h48:=neg_lead hs hn h1N
 have HS:=Lib.hid (fun k h1 hk=>neg_dig (k:=k) hs h1 hk)
 have h1I:(1:Int) < (s.size:Int):=by omega
 have hw0:IntKind.i64.wrap ((s.size:Int) - 1)=(s.size:Int) - 1:=IntWalk.i64_in _ (by omega)
 have hl2:(300:Int) < (s.size:Int) - 1:=by omega
 clear hs hd hz
 go_enter Tryz.func230,Tryz.ntmps230
 go_wp2_with fail
 go_loopw [4] (fun i wr=>∃ k:Nat,1≤k∧k≤s.size∧i=.int .i64 k∧wr=w) (fun i _=>s.size - (intOf i).toNat)
 case atStart=>exact ⟨1,by omega,by omega,rfl,rfl⟩
 case round =>
  obtain ⟨k,hk1,hk,rfl,hwr⟩:=hrel
  subst wr
  by_cases hlt:k < s.size
  ·obtain ⟨d1,d2⟩:=HS.out k hk1 hlt
   go_wp2_with fail
   go_roundw
   case rel=>exact ⟨k+1,by omega,by omega,by go_num,by trivial⟩
   case measure=>simp [intOf];omega
  ·go_wp2_with fail
   go_ret
   exact ⟨rfl,rfl⟩
theorem check6X (s:ByteArray) {x:Int} (w:World) (hs:s.data.toList=Lib.itoa x) (hx:¬ Fits 300 x) (hl:s.size≤1000):Calls Tryz.prog 230 #[.string s] w fun e w'=>e=.returned (.int .i64 4)∧w'=w:=by
 unfold Fits at hx
 rcases itoa_cases x with ⟨h,e⟩|⟨_,e⟩
 ·have hs':=hs.trans e
  exact check6_negl s w hs' (by omega) (by rw [neg_size hs'];omega) hl
 ·have hs':=hs.trans e
  exact check6_long s w hs' (by have e2:s.size=s.data.toList.length:=rfl;rw [e2,hs'];omega) hl
theorem mul_600 {x y:Int} (hx:x.natAbs < 10 ^ 300) (hy:y.natAbs < 10 ^ 300):(x * y).natAbs < 10 ^ 600:=by
 have h:=mul_lt (a:=300) (b:=300) hx hy
 rw [show (300+300:Nat)=600 from rfl] at h
 exact h
theorem add_pow {x y:Int} {k m:Nat} (hx:x.natAbs < 10 ^ k) (hy:y.natAbs < 10 ^ k) (hkm:k+1≤m):(x+y).natAbs < 10 ^ m:=by
 have h1:(x+y).natAbs≤x.natAbs+y.natAbs:=Int.natAbs_add_le _ _
 have h2:(10:Nat) ^ (k+1)≤10 ^ m:=pow10_le hkm
 have h3:(10:Nat) ^ (k+1)=10 * 10 ^ k:=Nat.pow_succ'
 omega
theorem IsBigS.len' {w:World} {v:Value} {x:Int} {k j m:Nat} (h:IsBigS w v x k) (hm:m=6 * j) (hx:x.natAbs < 10 ^ m):IsBigS w v x j:=by
 subst hm;exact h.len hx
theorem itoa_size {s:ByteArray} {x:Int} {k:Nat} (hs:s.data.toList=Lib.itoa x) (h:x.natAbs < 10 ^ k) (hk:1≤k):s.size≤k+1:=by
 have e:s.size=s.data.toList.length:=rfl
 have h1:(Lib.decDigits x.natAbs).length≤k:=by rw [Lib.decDigits_length];exact nDigits_le_of_lt h hk
 rcases itoa_cases x with ⟨_,e'⟩|⟨_,e'⟩<;>rw [e,hs,e']<;>simp<;>omega
theorem result6X {x:Int} {k:Nat} (v:Value) (w:World) (h:IsBigS w v x k) (hx:x.natAbs < 10 ^ 600):Calls Tryz.prog 181 #[v] w (RetX x w):=by
 by_cases hf:Fit x
 ·exact (result6s v w h hf).mono fun e w' h=>h.x hf
 ·have hv:=h.len' (j:=100) (m:=600) (by decide) hx
  have HW:=Lib.hid (fun W (hB:Below w.heap.size w W)=>write6s (k:=100) v W (hv.below hB) (by omega))
  obtain ⟨a,l,c,rfl,-,-,-⟩:=hv
  have HC:=Lib.hid (fun (s:ByteArray) W (hs:s.data.toList=Lib.itoa x)=>check6X s (x:=x) W hs hf (by have:=itoa_size hs hx (by omega);omega))
  have HF:=Lib.hid hf
  clear h hf
  generalize decide (x < 0)=b at *
  go_enter Tryz.func181,Tryz.ntmps181
  go_wp2_with fail
  refine (HW.out _ qbl).mono ?_
  rintro e w1 ⟨s,hs,rfl,hB1⟩
  have HS:=Lib.hid hs
  have hb1:Below w.heap.size w w1:=qbl
  clear hB1 hs
  go_wp2_with fail
  refine (HC.out _ _ HS.out).mono ?_
  rintro e w2 ⟨rfl,rfl⟩
  go_wp2_with fail
  go_ret2
  exact ⟨fun h=>absurd h HF.out,fun _=>⟨rfl,hb1⟩⟩
theorem Mul6X {x y:Int} (s t:ByteArray) (w:World) (hG:Glo w) (hs:s.data.toList=Lib.itoa x) (hx:Fit x) (ht:t.data.toList=Lib.itoa y) (hy:Fit y) :
  Calls Tryz.prog 194 #[.string s,.string t] w (RetX (x * y) w):=by
 have HB:=Lib.hid (fun W=>both6s s t W hs hx ht hy)
 have HR1:=Lib.hid (fun W=>read6s s W hs (by have:=fits_size hs hx;omega))
 have HR2:=Lib.hid (fun W=>read6s t W ht (by have:=fits_size ht hy;omega))
 have z1:=fits_size hs hx
 have z2:=fits_size ht hy
 have HG:=Lib.hid hG
 have HF:=Lib.hid (mul_600 ((fit_iff x).1 hx) ((fit_iff y).1 hy))
 by_cases h17:s.size≤17∧t.size≤17
 ·have HT:=Lib.hid (fun W=>two6s s t W hs h17.1 ht h17.2)
  have p1:x.natAbs < 10 ^ s.size:=itoa_lt (k:=s.size) (by rw [← hs];exact Nat.le_refl _)
  have p2:y.natAbs < 10 ^ t.size:=itoa_lt (k:=t.size) (by rw [← ht];exact Nat.le_refl _)
  by_cases h18:s.size+t.size≤18
  ·have p3:(x * y).natAbs < 10 ^ 18:=Nat.lt_of_lt_of_le (mul_lt p1 p2) (Nat.pow_le_pow_right (by omega) h18)
   have h18I:(s.size:Int)+(t.size:Int)≤18:=by omega
   have hw1:IntKind.i64.wrap ((s.size:Int)+(t.size:Int))=(s.size:Int)+(t.size:Int):=IntWalk.i64_in _ (by omega)
   have hw2:IntKind.i64.wrap (x * y)=x * y:=IntWalk.i64_in _ (by omega)
   have HI:=Lib.hid (fun W hG=>itoa_any (x * y) (by omega) (by omega) W hG)
   clear hs ht hG p1 p2
   go_enter Tryz.func194,Tryz.ntmps194
   go_wp2_with fail
   refine (HB.out _).mono ?_
   rintro e w1 ⟨rfl,rfl⟩
   go_wp2_with fail
   refine (HT.out _).mono ?_
   rintro e w1 ⟨rfl,rfl⟩
   go_wp2_with fail
   refine (HI.out _ HG.out).mono ?_
   rintro e w2 ⟨r,hr,rfl,hB⟩
   have HR:=Lib.hid hr
   clear hr
   go_wp2_with fail
   go_ret2
   exact RetI.x ⟨r,HR.out,rfl,hB⟩ (fit18 (by omega))
  ·have h18I:decide ((s.size:Int)+(t.size:Int)≤18)=false:=by simp;omega
   have hw1:IntKind.i64.wrap ((s.size:Int)+(t.size:Int))=(s.size:Int)+(t.size:Int):=IntWalk.i64_in _ (by omega)
   clear hs ht hG p1 p2
   go_enter Tryz.func194,Tryz.ntmps194
   go_wp2_with fail
   refine (HB.out _).mono ?_
   rintro e w1 ⟨rfl,rfl⟩
   go_wp2_with fail
   refine (HT.out _).mono ?_
   rintro e w1 ⟨rfl,rfl⟩
   go_wp2_with fail
   refine (HR1.out _).mono ?_
   rintro e w2 ⟨v1,rfl,i1,hB2⟩
   have I1:=Lib.hid i1
   obtain ⟨a1,l1,c1,rfl,-,-,-⟩:=i1
   generalize decide (x < 0)=b1 at *
   go_wp2_with fail
   refine (HR2.out _).mono ?_
   rintro e w3 ⟨v2,rfl,i2,hB3⟩
   have I2:=Lib.hid i2
   have I1':=Lib.hid (I1.out.below hB3)
   obtain ⟨a2,l2,c2,rfl,-,-,-⟩:=i2
   have hb3:=below_trans' hB2 hB3
   generalize decide (y < 0)=b2 at *
   clear hB2 hB3 I1
   go_wp2_with fail
   refine (mul6s _ _ _ I1'.out I2.out (by omega) (by omega)).mono ?_
   rintro e w4 ⟨v3,rfl,i3,hB4⟩
   have I3:=Lib.hid i3
   have hb4:=below_trans' hb3 hB4
   obtain ⟨a3,l3,c3,rfl,-,-,-⟩:=i3
   generalize decide (x * y < 0)=b3 at *
   clear hB4 hb3 I1' I2
   go_wp2_with fail
   refine (result6X _ _ I3.out HF.out).mono ?_
   intro e w5 hr
   obtain ⟨r,c,rfl,hr,-⟩:=retX_val hr
   have HR:=Lib.hid (hr.trans hb4)
   clear hr
   go_wp2_with fail
   go_ret2
   exact HR.out
 ·have HT:=Lib.hid (fun W=>two6s_long s t W hs h17)
  clear hs ht hG
  go_enter Tryz.func194,Tryz.ntmps194
  go_wp2_with fail
  refine (HB.out _).mono ?_
  rintro e w1 ⟨rfl,rfl⟩
  go_wp2_with fail
  refine (HT.out _).mono ?_
  rintro e w1 ⟨⟨u1,u2,rfl⟩,rfl⟩
  go_wp2_with fail
  refine (HR1.out _).mono ?_
  rintro e w2 ⟨v1,rfl,i1,hB2⟩
  have I1:=Lib.hid i1
  obtain ⟨a1,l1,c1,rfl,-,-,-⟩:=i1
  generalize decide (x < 0)=b1 at *
  go_wp2_with fail
  refine (HR2.out _).mono ?_
  rintro e w3 ⟨v2,rfl,i2,hB3⟩
  have I2:=Lib.hid i2
  have I1':=Lib.hid (I1.out.below hB3)
  obtain ⟨a2,l2,c2,rfl,-,-,-⟩:=i2
  have hb3:=below_trans' hB2 hB3
  generalize decide (y < 0)=b2 at *
  clear hB2 hB3 I1
  go_wp2_with fail
  refine (mul6s _ _ _ I1'.out I2.out (by omega) (by omega)).mono ?_
  rintro e w4 ⟨v3,rfl,i3,hB4⟩
  have I3:=Lib.hid i3
  have hb4:=below_trans' hb3 hB4
  obtain ⟨a3,l3,c3,rfl,-,-,-⟩:=i3
  generalize decide (x * y < 0)=b3 at *
  clear hB4 hb3 I1' I2
  go_wp2_with fail
  refine (result6X _ _ I3.out HF.out).mono ?_
  intro e w5 hr
  obtain ⟨r,c,rfl,hr,-⟩:=retX_val hr
  have HR:=Lib.hid (hr.trans hb4)
  clear hr
  go_wp2_with fail
  go_ret2
  exact HR.out
theorem Add6X {x y:Int} (s t:ByteArray) (w:World) (hG:Glo w) (hs:s.data.toList=Lib.itoa x) (hx:Fit x) (ht:t.data.toList=Lib.itoa y) (hy:Fit y) :
  Calls Tryz.prog 183 #[.string s,.string t] w (RetX (x+y) w):=by
 have HB:=Lib.hid (fun W=>both6s s t W hs hx ht hy)
 have HR1:=Lib.hid (fun W=>read6s s W hs (by have:=fits_size hs hx;omega))
 have HR2:=Lib.hid (fun W=>read6s t W ht (by have:=fits_size ht hy;omega))
 have z1:=fits_size hs hx
 have z2:=fits_size ht hy
 have HG:=Lib.hid hG
 have HF:=Lib.hid (add_pow (k:=300) (m:=600) ((fit_iff x).1 hx) ((fit_iff y).1 hy) (by decide))
 by_cases h17:s.size≤17∧t.size≤17
 ·have HT:=Lib.hid (fun W=>two6s s t W hs h17.1 ht h17.2)
  have p1:x.natAbs < 10 ^ 17:=itoa_lt (by rw [← hs];exact h17.1)
  have p2:y.natAbs < 10 ^ 17:=itoa_lt (by rw [← ht];exact h17.2)
  have hw2:IntKind.i64.wrap (x+y)=x+y:=IntWalk.i64_in _ (by omega)
  have p3:(x+y).natAbs < 10 ^ 40:=by omega
  have HI:=Lib.hid (fun W hG=>itoa_any (x+y) (by omega) (by omega) W hG)
  clear hs ht hG p1 p2
  go_enter Tryz.func183,Tryz.ntmps183
  go_wp2_with fail
  refine (HB.out _).mono ?_
  rintro e w1 ⟨rfl,rfl⟩
  go_wp2_with fail
  refine (HT.out _).mono ?_
  rintro e w1 ⟨rfl,rfl⟩
  go_wp2_with fail
  refine (HI.out _ HG.out).mono ?_
  rintro e w2 ⟨r,hr,rfl,hB⟩
  have HR:=Lib.hid hr
  clear hr
  go_wp2_with fail
  go_ret2
  exact RetI.x ⟨r,HR.out,rfl,hB⟩ (fit18 p3)
 ·have HT:=Lib.hid (fun W=>two6s_long s t W hs h17)
  clear hs ht hG
  go_enter Tryz.func183,Tryz.ntmps183
  go_wp2_with fail
  refine (HB.out _).mono ?_
  rintro e w1 ⟨rfl,rfl⟩
  go_wp2_with fail
  refine (HT.out _).mono ?_
  rintro e w1 ⟨⟨u1,u2,rfl⟩,rfl⟩
  go_wp2_with fail
  refine (HR1.out _).mono ?_
  rintro e w2 ⟨v1,rfl,i1,hB2⟩
  have I1:=Lib.hid i1
  obtain ⟨a1,l1,c1,rfl,-,-,-⟩:=i1
  generalize decide (x < 0)=b1 at *
  go_wp2_with fail
  refine (HR2.out _).mono ?_
  rintro e w3 ⟨v2,rfl,i2,hB3⟩
  have I2:=Lib.hid i2
  have I1':=Lib.hid (I1.out.below hB3)
  obtain ⟨a2,l2,c2,rfl,-,-,-⟩:=i2
  have hb3:=below_trans' hB2 hB3
  generalize decide (y < 0)=b2 at *
  clear hB2 hB3 I1
  go_wp2_with fail
  refine (add6s _ _ _ I1'.out I2.out (by omega) (by omega)).mono ?_
  rintro e w4 ⟨v3,rfl,i3,hB4⟩
  have I3:=Lib.hid i3
  have hb4:=below_trans' hb3 hB4
  obtain ⟨a3,l3,c3,rfl,-,-,-⟩:=i3
  generalize decide (x+y < 0)=b3 at *
  clear hB4 hb3 I1' I2
  go_wp2_with fail
  refine (result6X _ _ I3.out HF.out).mono ?_
  intro e w5 hr
  obtain ⟨r,c,rfl,hr,-⟩:=retX_val hr
  have HR:=Lib.hid (hr.trans hb4)
  clear hr
  go_wp2_with fail
  go_ret2
  exact HR.out
end Go.Proofs.YteepphiomcedfaaGreatDoor.R6
namespace Go.Proofs.YteepphiomcedfaaGreatDoor
open Go.RowKit
theorem productsX_ok {a b c d:Int} (s1 s2 s3 s4:ByteArray) (w:World) (hG:Glo w) (h1:s1.data.toList=Lib.itoa a) (h2:s2.data.toList=Lib.itoa b) (h3:s3.data.toList=Lib.itoa c) (h4:s4.data.toList=Lib.itoa d) (f1:Fit a) (f2:Fit b) (f3:Fit c) (f4:Fit d) :
  Calls Tryz.prog 140 #[.string s1,.string s2,.string s3,.string s4] w (RetCW (a * b) (c * d) w):=by
 have H1:=Lib.hid (fun W (hB:Below w.heap.size w W)=>R6.Mul6X s1 s2 W (hG.below hB) h1 f1 h2 f2)
 have H2:=Lib.hid (fun W (hB:Below w.heap.size w W)=>R6.Mul6X s3 s4 W (hG.below hB) h3 f3 h4 f4)
 clear h1 h2 h3 h4 f1 f2 f3 f4 hG
 go_enter Tryz.func140,Tryz.ntmps140
 go_wp2_with fail
 refine (H1.out _ (bw0 _ _)).mono ?_
 intro e w1 hrx
 by_cases g1:Fit (a * b)
 ·obtain ⟨r,hr,rfl,hB1⟩:=hrx.1 g1
  have HR:=Lib.hid hr
  clear hr hrx
  go_wp2_with fail
  refine (H2.out _ hB1).mono ?_
  intro e w2 hrx
  by_cases g2:Fit (c * d)
  ·obtain ⟨t,ht,rfl,hB2⟩:=hrx.1 g2
   have HT:=Lib.hid ht
   clear ht hrx
   have hb2:=below_trans' hB1 hB2
   go_wp2_with fail
   go_ret3
   exact ⟨r,t,0,rfl,Lib.hid (fun _=>⟨HR.out,HT.out,g1,g2⟩),.inl rfl,hb2⟩
  ·obtain ⟨rfl,hB2⟩:=hrx.2 g2
   clear hrx
   have hb2:=below_trans' hB1 hB2
   go_wp2_with fail
   go_ret3
   exact ⟨r,_,4,rfl,Lib.hid (fun h=>by cases h),.inr rfl,hb2⟩
 ·obtain ⟨rfl,hB1⟩:=hrx.2 g1
  clear hrx
  go_wp2_with fail
  go_ret3
  exact ⟨_,_,4,rfl,Lib.hid (fun h=>by cases h),.inr rfl,hB1⟩
theorem radd_w {p q:Rat} (s t:ByteArray) (w:World) (hG:Glo w) (hs:s.data.toList=ratText p) (hp:Sz 300 p) (ht:t.data.toList=ratText q) (hq:Sz 300 q) :
  Calls Tryz.prog 115 #[.string s,.string t] w (RetT (NumL (p+q)) w):=by
 have hpn:=hp.fn (show 300≤300 by omega)
 have hpd:=hp.fd (show 300≤300 by omega)
 have hqn:=hq.fn (show 300≤300 by omega)
 have hqd:=hq.fd (show 300≤300 by omega)
 have HI1:=Lib.hid (fun W=>rints_q s W hs hp (by omega))
 have HI2:=Lib.hid (fun W=>rints_q t W ht hq (by omega))
 have HP1:=Lib.hid (fun W=>rparts_q s W hs hp (by omega))
 have HP2:=Lib.hid (fun W=>rparts_q t W ht hq (by omega))
 have HQ:=Lib.hid (fun W (hn:(p.num * q.den+q.num * p.den).natAbs≤4000000000000000000) (hd:(p.den:Int) * q.den≤4000000000000000000)=>(quick02_ok (p.num * q.den+q.num * p.den) ((p.den:Int) * q.den) W (den_pos' p q) hn hd))
 have HPR:=Lib.hid (fun (u v x y:ByteArray) W (hB:Below w.heap.size w W) h1 h2 h3 h4=>productsX_ok (a:=p.num) (b:=q.den) (c:=q.num) (d:=p.den) u y x v W (hG.below hB) h1 (den_text h4) h3 (den_text h2) hpn hqd hqn hpd)
 have HPD:=Lib.hid (fun (v y:ByteArray) W (hB:Below w.heap.size w W) h2 h4=>productsX_ok (a:=p.den) (b:=q.den) (c:=1) (d:=1) v y ⟨#[49]⟩ ⟨#[49]⟩ W (hG.below hB) (den_text h2) (den_text h4) itoa_one.symm itoa_one.symm hpd hqd fit_one fit_one)
 have HAD:=Lib.hid (fun (x y:ByteArray) W (hB:Below w.heap.size w W) h1 h2 f1 f2=>R6.Add6X (x:=p.num * q.den) (y:=q.num * p.den) x y W (hG.below hB) h1 f1 h2 f2)
 have HMK:=Lib.hid (fun (x y:ByteArray) W (hB:Below w.heap.size w W) h1 h2 f3 f4=>make2_ok (n:=p.num * q.den+q.num * p.den) (d:=(p.den:Int) * q.den) x y W (hG.below hB) h1 f3 h2 f4 (den_pos' p q))
 have HRA:=Lib.hid (rat_add p q)
 have HRS:=Lib.hid (fun f3 f4=>(show Sz 300 (p+q) by rw [← rat_add];exact nl_divInt (den_pos' p q) f3 f4))
 clear hs ht hp hq hG hpn hpd hqn hqd
 go_enter Tryz.func115,Tryz.ntmps115
 go_wp2_with fail
 refine (HI1.out _).mono ?_
 rintro e w1 ⟨b1,hc1,hB1⟩
 rcases hc1 with ⟨rfl,rfl,p1,p2⟩|⟨rfl,rfl⟩
 ·go_wp2_with fail
  refine (HI2.out _).mono ?_
  rintro e w2 ⟨b2,hc2,hB2⟩
  have hb2:=below_trans' hB1 hB2
  clear hB1 hB2
  rcases hc2 with ⟨rfl,rfl,q1,q2⟩|⟨rfl,rfl⟩
  ·have m1:(p.num * q.den).natAbs < 10 ^ 18:=mul_lt (a:=9) (b:=9) p1 (by rw [den_nat];exact q2)
   have m2:(q.num * p.den).natAbs < 10 ^ 18:=mul_lt (a:=9) (b:=9) q1 (by rw [den_nat];exact p2)
   have m3:((p.den:Int) * q.den).natAbs < 10 ^ 18:=mul_lt (a:=9) (b:=9) (by rw [den_nat];exact p2) (by rw [den_nat];exact q2)
   have e1:IntKind.i64.wrap (p.num * q.den)=p.num * q.den:=IntWalk.i64_in _ (by omega)
   have e2:IntKind.i64.wrap (q.num * p.den)=q.num * p.den:=IntWalk.i64_in _ (by omega)
   have e3:IntKind.i64.wrap (p.num * q.den+q.num * p.den)=p.num * q.den+q.num * p.den:=IntWalk.i64_in _ (by omega)
   have e4:IntKind.i64.wrap ((p.den:Int) * q.den)=(p.den:Int) * q.den:=IntWalk.i64_in _ (by omega)
   have HSZ:=Lib.hid (HRS.out (fit18 (by omega)) (fit18 (by omega)))
   go_wp2_with fail
   refine (HQ.out _ (by omega) (by omega)).mono ?_
   rintro e w3 ⟨r,hr,rfl,hB3⟩
   rw [HRA.out] at hr
   have HR:=Lib.hid hr
   have hb3:=below_trans' hb2 hB3
   clear hr hB3 m1 m2 m3 e1 e2 e3 e4
   go_wp2_with fail
   go_ret2
   exact ⟨r,0,rfl,Lib.hid (.inl ⟨rfl,HR.out,HSZ.out⟩),hb3⟩
  ·clear p1 p2
   go_wp2_with fail
   refine (HP1.out _).mono ?_
   rintro e w3 ⟨u,v,hu,hv,rfl,hB3⟩
   have hb3:=below_trans' hb2 hB3
   clear hB3 hb2
   go_wp2_with fail
   refine (HP2.out _).mono ?_
   rintro e w4 ⟨x,y,hx,hy,rfl,hB4⟩
   have hb4:=below_trans' hb3 hB4
   clear hB4 hb3
   go_wp2_with fail
   refine (HPR.out u v x y _ hb4 hu.out hv.out hx.out hy.out).mono ?_
   rintro e w5 ⟨m,n,k5,rfl,hmn,hk5,hB5⟩
   have hb5:=below_trans' hb4 hB5
   clear hB5 hb4
   rcases hk5 with rfl|rfl
   ·obtain ⟨hm,hn,f1,f2⟩:=hmn.out rfl
    have HM:=Lib.hid hm
    have HN:=Lib.hid hn
    clear hm hn hmn
    go_wp2_with fail
    refine (HPD.out v y _ hb5 hv.out hy.out).mono ?_
    rintro e w6 ⟨z,o,k6,rfl,hzo,hk6,hB6⟩
    have hb6:=below_trans' hb5 hB6
    clear hB6 hb5
    rcases hk6 with rfl|rfl
    ·obtain ⟨hz,ho,f4,-⟩:=hzo.out rfl
     have HZ:=Lib.hid hz
     have ho0:(o.toList == [49])=true:=eq_of_list (m:=[49]) (by rw [ho];exact itoa_one)
     have ho1:(o.toList != [49])=false:=by rw [bne,ho0];rfl
     clear hz ho hzo
     go_wp2_with fail
     refine (HAD.out m n _ hb6 HM.out HN.out f1 f2).mono ?_
     intro e w7 hrx
     by_cases f3:Fit (p.num * q.den+q.num * p.den)
     ·obtain ⟨k,hk,rfl,hB7⟩:=hrx.1 f3
      have HK:=Lib.hid hk
      have hb7:=below_trans' hb6 hB7
      clear hk hB7 hb6 hrx
      go_wp2_with fail
      refine (HMK.out k z _ hb7 HK.out HZ.out f3 f4).mono ?_
      rintro e w8 ⟨r,hr,rfl,hB8⟩
      rw [HRA.out] at hr
      have HR:=Lib.hid hr
      have HSZ:=Lib.hid (HRS.out f3 f4)
      have hb8:=below_trans' hb7 hB8
      clear hr hB8 hb7
      go_wp2_with fail
      go_ret2
      exact ⟨r,0,rfl,Lib.hid (.inl ⟨rfl,HR.out,HSZ.out⟩),hb8⟩
     ·obtain ⟨rfl,hB7⟩:=hrx.2 f3
      have hb7:=below_trans' hb6 hB7
      clear hB7 hb6 hrx
      go_wp2_with fail
      go_ret2
      exact ⟨_,4,rfl,Lib.hid (.inr ⟨rfl,rfl⟩),hb7⟩
    ·clear hzo
     go_wp2_with fail
     go_ret2
     exact ⟨_,4,rfl,Lib.hid (.inr ⟨rfl,rfl⟩),hb6⟩
   ·clear hmn
    go_wp2_with fail
    go_ret2
    exact ⟨_,4,rfl,Lib.hid (.inr ⟨rfl,rfl⟩),hb5⟩
 ·go_wp2_with fail
  refine (HI2.out _).mono ?_
  rintro e w2 ⟨b2,hc2,hB2⟩
  have hb2:=below_trans' hB1 hB2
  clear hB1 hB2
  obtain ⟨i1,i2,rfl⟩:∃ i1 i2:Int,e=.returned (.tuple #[.int .i64 i1,.int .i64 i2,.bool b2]):=by
   rcases hc2 with ⟨rfl,rfl,_,_⟩|⟨rfl,rfl⟩
   ·exact ⟨_,_,rfl⟩
   ·exact ⟨_,_,rfl⟩
  clear hc2
  go_wp2_with fail
  refine (HP1.out _).mono ?_
  rintro e w3 ⟨u,v,hu,hv,rfl,hB3⟩
  have hb3:=below_trans' hb2 hB3
  clear hB3 hb2
  go_wp2_with fail
  refine (HP2.out _).mono ?_
  rintro e w4 ⟨x,y,hx,hy,rfl,hB4⟩
  have hb4:=below_trans' hb3 hB4
  clear hB4 hb3
  go_wp2_with fail
  refine (HPR.out u v x y _ hb4 hu.out hv.out hx.out hy.out).mono ?_
  rintro e w5 ⟨m,n,k5,rfl,hmn,hk5,hB5⟩
  have hb5:=below_trans' hb4 hB5
  clear hB5 hb4
  rcases hk5 with rfl|rfl
  ·obtain ⟨hm,hn,f1,f2⟩:=hmn.out rfl
   have HM:=Lib.hid hm
   have HN:=Lib.hid hn
   clear hm hn hmn
   go_wp2_with fail
   refine (HPD.out v y _ hb5 hv.out hy.out).mono ?_
   rintro e w6 ⟨z,o,k6,rfl,hzo,hk6,hB6⟩
   have hb6:=below_trans' hb5 hB6
   clear hB6 hb5
   rcases hk6 with rfl|rfl
   ·obtain ⟨hz,ho,f4,-⟩:=hzo.out rfl
    have HZ:=Lib.hid hz
    have ho0:(o.toList == [49])=true:=eq_of_list (m:=[49]) (by rw [ho];exact itoa_one)
    have ho1:(o.toList != [49])=false:=by rw [bne,ho0];rfl
    clear hz ho hzo
    go_wp2_with fail
    refine (HAD.out m n _ hb6 HM.out HN.out f1 f2).mono ?_
    intro e w7 hrx
    by_cases f3:Fit (p.num * q.den+q.num * p.den)
    ·obtain ⟨k,hk,rfl,hB7⟩:=hrx.1 f3
     have HK:=Lib.hid hk
     have hb7:=below_trans' hb6 hB7
     clear hk hB7 hb6 hrx
     go_wp2_with fail
     refine (HMK.out k z _ hb7 HK.out HZ.out f3 f4).mono ?_
     rintro e w8 ⟨r,hr,rfl,hB8⟩
     rw [HRA.out] at hr
     have HR:=Lib.hid hr
     have HSZ:=Lib.hid (HRS.out f3 f4)
     have hb8:=below_trans' hb7 hB8
     clear hr hB8 hb7
     go_wp2_with fail
     go_ret2
     exact ⟨r,0,rfl,Lib.hid (.inl ⟨rfl,HR.out,HSZ.out⟩),hb8⟩
    ·obtain ⟨rfl,hB7⟩:=hrx.2 f3
     have hb7:=below_trans' hb6 hB7
     clear hB7 hb6 hrx
     go_wp2_with fail
     go_ret2
     exact ⟨_,4,rfl,Lib.hid (.inr ⟨rfl,rfl⟩),hb7⟩
   ·clear hzo
    go_wp2_with fail
    go_ret2
    exact ⟨_,4,rfl,Lib.hid (.inr ⟨rfl,rfl⟩),hb6⟩
  ·clear hmn
   go_wp2_with fail
   go_ret2
   exact ⟨_,4,rfl,Lib.hid (.inr ⟨rfl,rfl⟩),hb5⟩
theorem RAdd02W {p q:Rat} (s t:ByteArray) (w:World) (hG:Glo w) (hs:s.data.toList=ratText p) (hp:Sz 300 p) (ht:t.data.toList=ratText q) (hq:Sz 300 q) :
  Calls Tryz.prog 56 #[.string s,.string t] w (RetT (NumL (p+q)) w):=by
 have H1:=Lib.hid (fun W (hB:Below w.heap.size w W)=>rcheck02_q s t W (hG.below hB) hs hp (by omega) ht hq (by omega))
 have H2:=Lib.hid (fun W (hB:Below w.heap.size w W)=>radd_w s t W (hG.below hB) hs hp ht hq)
 clear hs ht hp hq hG
 go_enter Tryz.func56,Tryz.ntmps56
 go_wp2_with fail
 refine (H1.out _ (bw0 _ _)).mono ?_
 rintro e w1 ⟨rfl,hB1⟩
 go_wp2_with fail
 refine (H2.out _ hB1).mono ?_
 rintro e w2 ⟨r,k,rfl,HR,hB2⟩
 have hb2:=below_trans' hB1 hB2
 clear hB1 hB2
 go_wp2_with fail
 go_ret2
 exact ⟨r,k,rfl,HR,hb2⟩
theorem rmul_w {n d m c:Int} (s1 s2 s3 s4:ByteArray) (w:World) (hG:Glo w) (h1:s1.data.toList=Lib.itoa n) (h2:s2.data.toList=Lib.itoa d) (h3:s3.data.toList=Lib.itoa m) (h4:s4.data.toList=Lib.itoa c) (f1:Fit n) (f2:Fit d) (f3:Fit m) (f4:Fit c) (hpos:0 < d * c) :
  Calls Tryz.prog 139 #[.string s1,.string s2,.string s3,.string s4] w (RetT (NumL (Rat.divInt (n * m) (d * c))) w):=by
 have HP:=Lib.hid (fun W (hB:Below w.heap.size w W)=>productsX_ok s1 s3 s2 s4 W (hG.below hB) h1 h3 h2 h4 f1 f3 f2 f4)
 have HM:=Lib.hid (fun (x y:ByteArray) W (hB:Below w.heap.size w W) h1 h2 fnm fdc=>make2_ok (n:=n * m) (d:=d * c) x y W (hG.below hB) h1 fnm h2 fdc hpos)
 have HRS:=Lib.hid (fun f3 f4=>nl_divInt (n:=n * m) hpos f3 f4)
 clear h1 h2 h3 h4 f1 f2 f3 f4 hpos hG
 go_enter Tryz.func139,Tryz.ntmps139
 go_wp2_with fail
 refine (HP.out _ (bw0 _ _)).mono ?_
 rintro e w1 ⟨x,y,k,rfl,hxy,hk,hB1⟩
 rcases hk with rfl|rfl
 ·obtain ⟨hx,hy,f3,f4⟩:=hxy.out rfl
  have HX:=Lib.hid hx
  have HY:=Lib.hid hy
  clear hx hy hxy
  go_wp2_with fail
  refine (HM.out x y _ hB1 HX.out HY.out f3 f4).mono ?_
  rintro e w2 ⟨r,hr,rfl,hB2⟩
  have HR:=Lib.hid hr
  have hb2:=below_trans' hB1 hB2
  clear hr hB1 hB2
  go_wp2_with fail
  go_ret2
  exact ⟨r,0,rfl,Lib.hid (.inl ⟨rfl,HR.out,HRS.out f3 f4⟩),hb2⟩
 ·clear hxy
  go_wp2_with fail
  go_ret2
  exact ⟨_,4,rfl,Lib.hid (.inr ⟨rfl,rfl⟩),hB1⟩
theorem RMul02W {p q:Rat} (s t:ByteArray) (w:World) (hG:Glo w) (hs:s.data.toList=ratText p) (hp:Sz 300 p) (ht:t.data.toList=ratText q) (hq:Sz 300 q) :
  Calls Tryz.prog 75 #[.string s,.string t] w (RetT (NumL (p * q)) w):=by
 have HCK:=Lib.hid (fun W (hB:Below w.heap.size w W)=>rcheck02_q s t W (hG.below hB) hs hp (by omega) ht hq (by omega))
 have HI1:=Lib.hid (fun W=>rints_q s W hs hp (by omega))
 have HI2:=Lib.hid (fun W=>rints_q t W ht hq (by omega))
 have HP1:=Lib.hid (fun W=>rparts_q s W hs hp (by omega))
 have HP2:=Lib.hid (fun W=>rparts_q t W ht hq (by omega))
 have hpn:=hp.fn (show 300≤300 by omega)
 have hpd:=hp.fd (show 300≤300 by omega)
 have hqn:=hq.fn (show 300≤300 by omega)
 have hqd:=hq.fd (show 300≤300 by omega)
 have HML:=Lib.hid (fun (u v x y:ByteArray) W (hB:Below w.heap.size w W) h1 h2 h3 h4=>rmul_w (n:=p.num) (d:=p.den) (m:=q.num) (c:=q.den) u v x y W (hG.below hB) h1 (den_text h2) h3 (den_text h4) hpn hpd hqn hqd (den_pos' p q))
 have HQ:=Lib.hid (fun W (hn:(p.num * q.num).natAbs≤4000000000000000000) (hd:(p.den:Int) * q.den≤4000000000000000000)=>(quick02_ok (p.num * q.num) ((p.den:Int) * q.den) W (den_pos' p q) hn hd))
 have HRA:=Lib.hid (rat_mul p q)
 have HRS:=Lib.hid (fun f3 f4=>(show Sz 300 (p * q) by rw [← rat_mul];exact nl_divInt (den_pos' p q) f3 f4))
 clear hs ht hp hq hG hpn hpd hqn hqd
 go_enter Tryz.func75,Tryz.ntmps75
 go_wp2_with fail
 refine (HCK.out _ (bw0 _ _)).mono ?_
 rintro e w0 ⟨rfl,hB0⟩
 go_wp2_with fail
 refine (HI1.out _).mono ?_
 rintro e w1 ⟨b1,hc1,hB1⟩
 have hb1:=below_trans' hB0 hB1
 clear hB0 hB1
 rcases hc1 with ⟨rfl,rfl,p1,p2⟩|⟨rfl,rfl⟩
 ·go_wp2_with fail
  refine (HI2.out _).mono ?_
  rintro e w2 ⟨b2,hc2,hB2⟩
  have hb2:=below_trans' hb1 hB2
  clear hb1 hB2
  rcases hc2 with ⟨rfl,rfl,q1,q2⟩|⟨rfl,rfl⟩
  ·have m1:(p.num * q.num).natAbs < 10 ^ 18:=mul_lt (a:=9) (b:=9) p1 q1
   have m3:((p.den:Int) * q.den).natAbs < 10 ^ 18:=mul_lt (a:=9) (b:=9) (by rw [den_nat];exact p2) (by rw [den_nat];exact q2)
   have e1:IntKind.i64.wrap (p.num * q.num)=p.num * q.num:=IntWalk.i64_in _ (by omega)
   have e4:IntKind.i64.wrap ((p.den:Int) * q.den)=(p.den:Int) * q.den:=IntWalk.i64_in _ (by omega)
   go_wp2_with fail
   refine (HQ.out _ (by omega) (by omega)).mono ?_
   rintro e w5 ⟨r,hr,rfl,hB5⟩
   rw [HRA.out] at hr
   have HR:=Lib.hid hr
   have HSZ:=Lib.hid (HRS.out (fit18 (by omega)) (fit18 (by omega)))
   have hb5:=below_trans' hb2 hB5
   clear hr hB5
   go_wp2_with fail
   go_ret2
   exact ⟨r,0,rfl,Lib.hid (.inl ⟨rfl,HR.out,HSZ.out⟩),hb5⟩
  ·clear p1 p2
   go_wp2_with fail
   refine (HP1.out _).mono ?_
   rintro e w3 ⟨u,v,hu,hv,rfl,hB3⟩
   have hb3:=below_trans' hb2 hB3
   clear hB3 hb2
   go_wp2_with fail
   refine (HP2.out _).mono ?_
   rintro e w4 ⟨x,y,hx,hy,rfl,hB4⟩
   have hb4:=below_trans' hb3 hB4
   clear hB4 hb3
   go_wp2_with fail
   refine (HML.out u v x y _ hb4 hu.out hv.out hx.out hy.out).mono ?_
   rintro e w5 ⟨r,k,rfl,HR,hB5⟩
   rw [HRA.out] at HR
   have hb5:=below_trans' hb4 hB5
   clear hB5
   go_wp2_with fail
   go_ret2
   exact ⟨r,k,rfl,HR,hb5⟩
 ·go_wp2_with fail
  refine (HI2.out _).mono ?_
  rintro e w2 ⟨b2,hc2,hB2⟩
  have hb2:=below_trans' hb1 hB2
  clear hb1 hB2
  obtain ⟨i1,i2,rfl⟩:∃ i1 i2:Int,e=.returned (.tuple #[.int .i64 i1,.int .i64 i2,.bool b2]):=by
   rcases hc2 with ⟨rfl,rfl,_,_⟩|⟨rfl,rfl⟩
   ·exact ⟨_,_,rfl⟩
   ·exact ⟨_,_,rfl⟩
  clear hc2
  go_wp2_with fail
  refine (HP1.out _).mono ?_
  rintro e w3 ⟨u,v,hu,hv,rfl,hB3⟩
  have hb3:=below_trans' hb2 hB3
  clear hB3 hb2
  go_wp2_with fail
  refine (HP2.out _).mono ?_
  rintro e w4 ⟨x,y,hx,hy,rfl,hB4⟩
  have hb4:=below_trans' hb3 hB4
  clear hB4 hb3
  go_wp2_with fail
  refine (HML.out u v x y _ hb4 hu.out hv.out hx.out hy.out).mono ?_
  rintro e w5 ⟨r,k,rfl,HR,hB5⟩
  rw [HRA.out] at HR
  have hb5:=below_trans' hb4 hB5
  clear hB5
  go_wp2_with fail
  go_ret2
  exact ⟨r,k,rfl,HR,hb5⟩
end Go.Proofs.YteepphiomcedfaaGreatDoor
namespace Go.Proofs.YteepphiomcedfaaGreatDoor
open Go.RowKit
theorem itoa_inj {x y:Int} (h:Lib.itoa x=Lib.itoa y):x=y:=by
 have key:∀ {a b:Nat},Lib.decDigits a=Lib.decDigits b→a=b:=fun {a b} e=>by
  have:=congrArg dval e
  rwa [dval_decDigits,dval_decDigits] at this
 rcases itoa_cases x with ⟨h1,e1⟩|⟨h1,e1⟩<;>rcases itoa_cases y with ⟨h2,e2⟩|⟨h2,e2⟩<;>rw [e1,e2] at h
 ·injection h with _ h
  have:=key h
  omega
 ·have:=decDigits_no45 y.natAbs []
  rw [List.append_nil,← h] at this
  exact absurd rfl this
 ·have:=decDigits_no45 x.natAbs []
  rw [List.append_nil,h] at this
  exact absurd rfl this
 ·have:=key h
  omega
theorem ratText_inj' {p q:Rat} (h:ratText p=ratText q):p=q:=by
 have hc:=congrArg (fun l=>Lib.cut l [47]) h
 unfold ratText at hc
 by_cases h1:p.den=1<;>by_cases h2:q.den=1
 ·rw [if_pos h1,if_pos h2] at hc
  simp only [cut_itoa,Prod.mk.injEq] at hc
  exact Rat.ext (itoa_inj hc.1) (h1.trans h2.symm)
 ·rw [if_pos h1,if_neg h2] at hc
  simp only [cut_itoa,cut_frac,Prod.mk.injEq] at hc
  exact absurd hc.2.2 (by decide)
 ·rw [if_neg h1,if_pos h2] at hc
  simp only [cut_itoa,cut_frac,Prod.mk.injEq] at hc
  exact absurd hc.2.2 (by decide)
 ·rw [if_neg h1,if_neg h2] at hc
  simp only [cut_frac,Prod.mk.injEq] at hc
  refine Rat.ext (itoa_inj hc.1) ?_
  have:=congrArg dval hc.2.1
  rwa [dval_decDigits,dval_decDigits] at this
theorem qOf_eq {s:ByteArray} {q:Rat} (h:s.data.toList=ratText q) (hq:Sz 300 q):qOf s=q:=by
 have:=(qOf_spec (s:=s) ⟨q,h,hq⟩).1
 exact ratText_inj' (this.symm.trans h)
noncomputable def isShort (s:ByteArray):Bool:=open Classical in decide (∃ q:Rat,s.data.toList=ratText q∧Sz 36 q)
theorem sz36 {q:Rat} (h:Sz 36 q):Sz 300 q:=h.mono (by decide)
open Classical in
theorem isShort_spec {s:ByteArray} (h:isShort s=true):s.data.toList=ratText (qOf s)∧Sz 36 (qOf s):=by
 unfold isShort at h
 rw [decide_eq_true_eq] at h
 obtain ⟨q,h1,h2⟩:=h
 rw [qOf_eq h1 (sz36 h2)]
 exact ⟨h1,h2⟩
open Classical in
theorem isShort_num {s:ByteArray} {q:Rat} (h:s.data.toList=ratText q):isShort s=true↔Sz 36 q:=by
 unfold isShort
 rw [decide_eq_true_eq]
 constructor
 ·rintro ⟨p,h1,h2⟩
  rw [ratText_inj' (h.symm.trans h1)];exact h2
 ·exact fun hq=>⟨q,h,hq⟩
open Classical in
theorem isShort_bad {s:ByteArray} (h:¬ IsNum s):isShort s=false:=by
 unfold isShort
 rw [decide_eq_false_iff_not]
 rintro ⟨q,h1,h2⟩
 exact h ⟨q,h1,sz36 h2⟩
theorem dig36 {n:Nat}:(Lib.decDigits n).length≤36↔n < 10 ^ 36:=⟨fun h=>pow_le_of_lt h,fun h=>by rw [Lib.decDigits_length];exact nDigits_le_of_lt h (by decide)⟩
theorem Parts_q {k:Nat} {q:Rat} (s:ByteArray) (w:World) (hG:Glo w) (hs:s.data.toList=ratText q) (hq:Sz k q) (hk:k≤300) :
  Calls Tryz.prog 279 #[.string s] w fun e w'=>∃ a b:ByteArray,Hid (a.data.toList=Lib.itoa q.num)∧Hid (b.data.toList=Lib.decDigits q.den)∧e=.returned (.tuple #[.string a,.string b,.int .i64 0])∧Below w.heap.size w w':=by
 have H:=Lib.hid (read_any s w hG hs hq hk)
 clear hs hG
 go_enter Tryz.func279,Tryz.ntmps279
 go_wp2_with fail
 refine H.out.mono ?_
 rintro e w1 ⟨a,b,ha,hb,rfl,hB1⟩
 go_wp2_with fail
 go_quiet (fail)
 go_wp2_with fail
 go_ret3
 exact ⟨a,b,ha,hb,rfl,qbl⟩
theorem Parts_bad (s:ByteArray) (w:World) (hG:Glo w) (hs:s.size≤1000) (hno:¬ IsNum s) :
  Calls Tryz.prog 279 #[.string s] w fun e w'=>∃ c:Int,e=.returned (.tuple #[.string ⟨#[]⟩,.string ⟨#[]⟩,.int .i64 c])∧c≠0∧Below w.heap.size w w':=by
 have H:=Lib.hid (read_bad s w hG hs hno)
 clear hno hG
 go_enter Tryz.func279,Tryz.ntmps279
 go_wp2_with fail
 refine H.out.mono ?_
 rintro e w1 ⟨c,rfl,hc,-,hB1⟩
 go_wp2_with fail
 go_quiet (fail)
 go_wp2_with fail
 go_ret3
 exact ⟨c,rfl,hc,qbl⟩
theorem short_any (s:ByteArray) (w:World) (hG:Glo w) (hsz:s.size≤1000) :
  Calls Tryz.prog 256 #[.string s] w (RetB (.bool (isShort s)) w):=by
 by_cases hN:IsNum s
 ·obtain ⟨q,hs,hq⟩:=hN
  have HP:=Lib.hid (Parts_q s w hG hs hq (by decide))
  obtain ⟨bv,hbv⟩:∃ b,isShort s=b:=⟨_,rfl⟩
  have HI:=Lib.hid (show bv=true↔(Lib.decDigits q.num.natAbs).length≤36∧(Lib.decDigits q.den).length≤36 by
   rw [← hbv,isShort_num hs,dig36,dig36];exact Iff.rfl)
  rw [hbv]
  clear hs hG hbv hq
  go_enter Tryz.func256,Tryz.ntmps256
  go_wp2_with fail
  refine HP.out.mono ?_
  rintro e w1 ⟨a,b,ha,hb,rfl,hB1⟩
  have hx:=(trim_itoa q.num).1
  rw [← ha.out] at hx
  have HX:=Lib.hid hx
  clear hx
  have hbl:b.size=(Lib.decDigits q.den).length:=by rw [← hb.out];rfl
  go_wp2_with fail
  refine (trimPrefix_any a _ _ HX.out).mono ?_
  rintro e w2 ⟨o,ho,rfl,rfl⟩
  have hol:o.size=(Lib.decDigits q.num.natAbs).length:=by rw [← ho.out];rfl
  have hmx:decide (max (o.size:Int) (b.size:Int)≤36)=bv:=by
   cases bv
   ·rw [decide_eq_false_iff_not]
    intro h
    have:=HI.out.2 ⟨by omega,by omega⟩
    exact absurd this (by decide)
   ·rw [decide_eq_true_eq]
    obtain ⟨h1,h2⟩:=HI.out.1 rfl
    omega
  clear hbl hol HI
  go_wp2_with fail
  go_ret
  exact ⟨rfl,qbl⟩
 ·rw [isShort_bad hN]
  have HP:=Lib.hid (Parts_bad s w hG hsz hN)
  clear hN hG
  go_enter Tryz.func256,Tryz.ntmps256
  go_wp2_with fail
  refine HP.out.mono ?_
  rintro e w1 ⟨c,rfl,hc,hB1⟩
  have hc1:(c == 0)=false:=by simpa using hc
  go_wp2_with fail
  go_ret
  exact ⟨rfl,qbl⟩
theorem order_q {k m:Nat} {p q:Rat} (s t:ByteArray) (w:World) (hG:Glo w) (hs:s.data.toList=ratText p) (hp:Sz k p) (ht:t.data.toList=ratText q) (hq:Sz m q) (hkm:k+m≤300) :
  Calls Tryz.prog 257 #[.string s,.string t] w (RetB (.int .i64 (ordQ p q)) w):=by
 have HCM:=Lib.hid (RCompare_ok s t w hG hs hp ht hq hkm)
 rw [compareInt_rat] at HCM
 by_cases he:s.toList=t.toList
 ·have hpq:p=q:=by
   rw [Lib.toList_data,Lib.toList_data,hs,ht] at he
   exact ratText_inj' he
  subst hpq
  have ho:Hid (ordQ p p=0):=Lib.hid (by unfold ordQ;rw [if_neg Rat.lt_irrefl,if_neg Rat.lt_irrefl])
  have hE:(s.toList == t.toList)=true:=by simpa using he
  clear hs ht he HCM hG
  go_enter Tryz.func257,Tryz.ntmps257
  go_wp2_with fail
  go_ret
  exact ⟨by rw [ho.out];rfl,qbl⟩
 ·have hE:(s.toList == t.toList)=false:=by simpa using he
  clear hs ht he hG
  go_enter Tryz.func257,Tryz.ntmps257
  go_wp2_with fail
  refine HCM.out.mono ?_
  rintro e w1 ⟨rfl,hB1⟩
  go_wp2_with fail
  go_ret
  exact ⟨rfl,qbl⟩
end Go.Proofs.YteepphiomcedfaaGreatDoor
