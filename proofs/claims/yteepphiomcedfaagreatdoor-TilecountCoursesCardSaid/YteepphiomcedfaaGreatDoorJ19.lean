/- Joined texts: WBigOps, WGcdL, WDivX, WBigOps2. -/
import Derived.Test.YteepphiomcedfaaGreatDoorJ18
import Derived.Test.YteepphiomcedfaaGreatDoorJ04
import Derived.Test.YteepphiomcedfaaGreatDoorJ15
import Derived.Test.YteepphiomcedfaaGreatDoorJ17
import Derived.Deep.LoopGhost
set_option maxRecDepth 100000
set_option linter.unusedVariables false
set_option linter.unusedSimpArgs false
set_option maxHeartbeats 6400000
namespace Go.Proofs.YteepphiomcedfaaGreatDoor
open Go.RowKit Go.Shelf
theorem fit_of_lt {n:Int} (h:n.natAbs < 10 ^ 300):Fit n:=by
 unfold Fit
 rw [Lib.decDigits_length]
 exact nDigits_le_of_lt h (by omega)
theorem pow10_le {a b:Nat} (h:a≤b):10 ^ a≤10 ^ b:=Nat.pow_le_pow_right (by omega) h
theorem fit_iff (n:Int):Fit n↔n.natAbs < 10 ^ 300:=⟨fun h=>pow_le_of_lt (k:=300) h,fit_of_lt⟩
theorem RetI.x {z:Int} {w w':World} {e:Ending} (h:RetI z w e w') (hf:Fit z):RetX z w e w':=⟨fun _=>h,fun hn=>absurd hf hn⟩
theorem fit_size {x:Int} {s:ByteArray} (hs:s.data.toList=Lib.itoa x) (hx:Fit x):s.size≤301:=by
 have e:s.size=(Lib.itoa x).length:=by rw [← hs];rfl
 have h:=itoa_len_le (n:=x) (k:=300) ((fit_iff x).1 hx) (by omega)
 omega
theorem lt18 {x:Int} {s:ByteArray} (hs:s.data.toList=Lib.itoa x) (h:s.size≤18):x.natAbs < 10 ^ 18:=itoa_lt (by rw [← hs];exact h)
theorem fit18 {x:Int} (h:x.natAbs < 10 ^ 40):Fit x:=fit_of_lt (Nat.lt_of_lt_of_le h (pow10_le (a:=40) (b:=300) (by decide)))
theorem IsBig.parts {w:World} {v:Value} {z:Int} {k:Nat} (h:IsBig w v z k):∃ m a l c n,v=.agg #[.bool m,.slice a l.length c]∧IsInts w (.slice a l.length c) l∧Num l n∧z=sgnV m n∧l.length≤k:=by
 obtain ⟨m,u,l,n,rfl,hi,hn,hz,hl⟩:=h
 obtain ⟨a,c,rfl⟩:=hi.slice
 exact ⟨m,a,l,c,n,rfl,hi,hn,hz,hl⟩
theorem retX_val {z:Int} {w w':World} {e:Ending} (h:RetX z w e w'):∃ (r:ByteArray) (c:Int),e=.returned (.tuple #[.string r,.int .i64 c])∧RetX z w (.returned (.tuple #[.string r,.int .i64 c])) w'∧Below w.heap.size w w':=by
 by_cases hf:Fit z
 ·obtain ⟨r,hr,rfl,hB⟩:=h.1 hf
  exact ⟨r,0,rfl,h,hB⟩
 ·obtain ⟨rfl,hB⟩:=h.2 hf
  exact ⟨⟨#[]⟩,4,rfl,h,hB⟩
theorem RetX.trans {z:Int} {w W w':World} {e:Ending} (h:RetX z W e w') (hB:Below w.heap.size w W):RetX z w e w' :=
 ⟨fun hf=>by obtain ⟨r,hr,h1,h2⟩:=h.1 hf;exact ⟨r,hr,h1,below_trans' hB h2⟩,fun hf=>⟨(h.2 hf).1,below_trans' hB (h.2 hf).2⟩⟩
theorem Iadd_ok (x y:Int) (s t:ByteArray) (w:World) (hG:Glo w) (hs:s.data.toList=Lib.itoa x) (hx:Fit x) (ht:t.data.toList=Lib.itoa y) (hy:Fit y) :
  Calls Tryz.prog 65 #[.string s,.string t] w (RetX (x+y) w):=by
 have hsz:=fit_size hs hx
 have htz:=fit_size ht hy
 have HS:=Lib.hid hs
 have HT:=Lib.hid ht
 have HG:=Lib.hid hG
 have HX:=Lib.hid hx
 have HY:=Lib.hid hy
 by_cases hb:s.size≤18∧t.size≤18
 ·obtain ⟨hb1,hb2⟩:=hb
  have h1:=lt18 hs hb1
  have h2:=lt18 ht hb2
  clear hs ht hG hx hy
  go_enter Tryz.func65,Tryz.ntmps65
  go_wp2_with fail
  refine (Iboth_ok x y s t _ HS.out HX.out HT.out HY.out).mono ?_
  rintro e w1 ⟨rfl,hB1⟩
  go_wp2_with fail
  refine (Ismall_ok x y s t _ HS.out hb1 HT.out hb2).mono ?_
  rintro e w2 ⟨rfl,hB2⟩
  go_wp2_with fail
  refine (itoa_any (x+y) (by omega) (by omega) _ (HG.out.below qbl)).mono ?_
  rintro e w3 ⟨r,hr,rfl,hB3⟩
  have HR:=Lib.hid hr
  clear hr
  go_wp2_with fail
  go_ret2
  exact RetI.x ⟨r,HR.out,rfl,qbl⟩ (fit18 (by omega))
 ·clear hs ht hG hx hy
  go_enter Tryz.func65,Tryz.ntmps65
  go_wp2_with fail
  refine (Iboth_ok x y s t _ HS.out HX.out HT.out HY.out).mono ?_
  rintro e w1 ⟨rfl,hB1⟩
  go_wp2_with fail
  refine (small_long s t _ (by omega)).mono ?_
  rintro e w2 ⟨rfl,hB2⟩
  have hb2:Below w.heap.size w w2:=qbl
  clear hB1 hB2
  go_wp2_with fail
  refine (iread_ok x s _ HS.out (by omega)).mono ?_
  rintro e w3 ⟨v1,rfl,hv1,hB3⟩
  have hb3:Below w.heap.size w w3:=below_trans' hb2 hB3
  have HV1:=Lib.hid hv1
  obtain ⟨m1,a1,l1,c1,n1,rfl,_⟩:=hv1.parts
  clear hv1 hB3
  go_wp2_with fail
  refine (iread_ok y t _ HT.out (by omega)).mono ?_
  rintro e w4 ⟨v2,rfl,hv2,hB4⟩
  have hb4:Below w.heap.size w w4:=below_trans' hb3 hB4
  have HV1':=Lib.hid (HV1.out.below hB4)
  have HV2:=Lib.hid hv2
  obtain ⟨m2,a2,l2,c2,n2,rfl,_⟩:=hv2.parts
  clear hv2 hB4
  go_wp2_with fail
  refine (addL_ok _ _ _ HV1'.out HV2.out (by omega) (by omega)).mono ?_
  rintro e w5 ⟨v3,rfl,hv3,hB5⟩
  have hb5:Below w.heap.size w w5:=below_trans' hb4 hB5
  have HV3:=Lib.hid hv3
  obtain ⟨m3,a3,l3,c3,n3,rfl,_⟩:=hv3.parts
  clear hv3 hB5
  go_wp2_with fail
  refine (result_ok _ _ (HG.out.below hb5) HV3.out (by omega)).mono ?_
  intro e w6 hr
  obtain ⟨r,c,rfl,hr,hB6⟩:=retX_val hr
  have HR:=Lib.hid (hr.trans hb5)
  clear hr hB6
  go_wp2_with fail
  go_ret2
  exact HR.out
theorem Imul_ok (x y:Int) (s t:ByteArray) (w:World) (hG:Glo w) (hs:s.data.toList=Lib.itoa x) (hx:Fit x) (ht:t.data.toList=Lib.itoa y) (hy:Fit y) :
  Calls Tryz.prog 125 #[.string s,.string t] w (RetX (x * y) w):=by
 have hsz:=fit_size hs hx
 have htz:=fit_size ht hy
 by_cases hb:s.size+t.size≤18
 ·refine (Imul_small x y s t w hG hs ht hb).mono fun e w' h=>h.x (fit18 ?_)
  have h1:=lt18 hs (by omega)
  have h2:=lt18 ht (by omega)
  rw [Int.natAbs_mul]
  calc x.natAbs * y.natAbs < 10 ^ 18 * 10 ^ 18:=Nat.mul_lt_mul'' h1 h2
   _≤10 ^ 40:=by decide
 ·have HS:=Lib.hid hs
  have HT:=Lib.hid ht
  have HG:=Lib.hid hG
  have HX:=Lib.hid hx
  have HY:=Lib.hid hy
  have hlz:¬ ((s.size:Int)+(t.size:Int))≤18:=by omega
  have hlw:IntKind.i64.wrap ((s.size:Int)+(t.size:Int))=(s.size:Int)+(t.size:Int):=IntWalk.i64_in _ (by omega)
  clear hs ht hG hx hy
  go_enter Tryz.func125,Tryz.ntmps125
  go_wp2_with fail
  refine (Iboth_ok x y s t _ HS.out HX.out HT.out HY.out).mono ?_
  rintro e w1 ⟨rfl,hB1⟩
  have hb2:Below w.heap.size w w1:=qbl
  clear hB1
  go_wp2_with fail
  refine (iread_ok x s _ HS.out (by omega)).mono ?_
  rintro e w3 ⟨v1,rfl,hv1,hB3⟩
  have hb3:Below w.heap.size w w3:=below_trans' hb2 hB3
  have HV1:=Lib.hid hv1
  obtain ⟨m1,a1,l1,c1,n1,rfl,i1,d1,z1,q1⟩:=hv1.parts
  clear hv1 hB3
  go_wp2_with fail
  refine (iread_ok y t _ HT.out (by omega)).mono ?_
  rintro e w4 ⟨v2,rfl,hv2,hB4⟩
  have hb4:Below w.heap.size w w4:=below_trans' hb3 hB4
  have HV1':=Lib.hid (HV1.out.below hB4)
  have HV2:=Lib.hid hv2
  obtain ⟨m2,a2,l2,c2,n2,rfl,i2,d2,z2,q2⟩:=hv2.parts
  obtain ⟨i1,d1,z1,q1⟩:IsInts w4 (.slice a1 l1.length c1) l1∧Num l1 n1∧x=sgnV m1 n1∧l1.length≤(s.size+8) / 9:=⟨i1.below hB4,d1,z1,q1⟩
  clear hv2 hB4
  go_wp2_with fail
  have hb5:Below w.heap.size w ((w4.alloc (.cells #[.bool m1,.slice a1 l1.length c1] 151)).alloc (.cells #[.bool m2,.slice a2 l2.length c2] 151)):=qbl
  have x0:BoxN ((w4.alloc (.cells #[.bool m1,.slice a1 l1.length c1] 151)).alloc (.cells #[.bool m2,.slice a2 l2.length c2] 151)) w4.heap.size (.bool m1) (.slice a1 l1.length c1):=(BoxN.new rfl).below (bw4 (bw0 _ _) _)
  have x1:BoxN ((w4.alloc (.cells #[.bool m1,.slice a1 l1.length c1] 151)).alloc (.cells #[.bool m2,.slice a2 l2.length c2] 151)) (w4.heap.size+1) (.bool m2) (.slice a2 l2.length c2):=BoxN.new (by simp)
  have hBy:Below w4.heap.size w4 ((w4.alloc (.cells #[.bool m1,.slice a1 l1.length c1] 151)).alloc (.cells #[.bool m2,.slice a2 l2.length c2] 151)):=bw4 (bw4 (bw0 _ _) _) _
  generalize ((w4.alloc (.cells #[.bool m1,.slice a1 l1.length c1] 151)).alloc (.cells #[.bool m2,.slice a2 l2.length c2] 151))=W0 at *
  have HTM:=Lib.hid (fun (W:World) (hB:Below W0.heap.size W0 W)=>timesL_ok _ _ W ((i1.below hBy).below hB) ((i2.below hBy).below hB) d1 d2 (by omega) (by omega))
  have HSG:=Lib.hid (show x * y=sgnV (m1 != m2) (n1 * n2) by
   rw [z1,z2]
   cases m1<;>cases m2<;>simp [sgnV,Int.neg_mul,Int.mul_neg])
  have HRS:=Lib.hid (fun (W:World) (v:Value) (hB:Below W0.heap.size W0 W) (hv:IsBig W v (x * y) 200)=>result_ok v W (HG.out.below (below_trans' hb5 hB)) hv (by omega))
  have hR:Below W0.heap.size W0 W0.drew:=(bw0 _ _).drew
  clear i1 i2 d1 d2 z1 z2 hBy
  refine region_S (F:=[]) (R:=(fun w'=>Below W0.heap.size W0 w')) 16 #[false,false,false,false,false,false,false,false,false,false,false,false,false,false,false,false] (by kernel_rfl) (by kernel_rfl) (by kernel_rfl) (fun _ _ _ _ _ h=>h) (fun Q' hQ' hN=>?_)
  generalize W0.drew=wd at *
  refine tS 40 0 (hy:=by intro wq hRq;have e0:=(x0.below hRq).c0;have e1:=(x0.below hRq).c1;have e2:=(x1.below hRq).c0;have e3:=(x1.below hRq).c1;go_simp;(try with_reducible rfl)) ?_
  refine tS 41 1 (hy:=by intro wq hRq;have e0:=(x0.below hRq).c0;have e1:=(x0.below hRq).c1;have e2:=(x1.below hRq).c0;have e3:=(x1.below hRq).c1;go_simp;(try with_reducible rfl)) ?_
  refine tS 42 2 (hy:=by intro wq hRq;have e0:=(x0.below hRq).c0;have e1:=(x0.below hRq).c1;have e2:=(x1.below hRq).c0;have e3:=(x1.below hRq).c1;go_simp;(try with_reducible rfl)) ?_
  refine tS 43 3 (hy:=by intro wq hRq;have e0:=(x0.below hRq).c0;have e1:=(x0.below hRq).c1;have e2:=(x1.below hRq).c0;have e3:=(x1.below hRq).c1;go_simp;(try with_reducible rfl)) ?_
  refine tS 44 4 (hy:=by intro wq hRq;have e0:=(x0.below hRq).c0;have e1:=(x0.below hRq).c1;have e2:=(x1.below hRq).c0;have e3:=(x1.below hRq).c1;go_simp;(try with_reducible rfl)) ?_
  refine tS 45 5 (hy:=by intro wq hRq;have e0:=(x0.below hRq).c0;have e1:=(x0.below hRq).c1;have e2:=(x1.below hRq).c0;have e3:=(x1.below hRq).c1;go_simp;(try with_reducible rfl)) ?_
  refine tS 46 6 (hy:=by intro wq hRq;have e0:=(x0.below hRq).c0;have e1:=(x0.below hRq).c1;have e2:=(x1.below hRq).c0;have e3:=(x1.below hRq).c1;go_simp;(try with_reducible rfl)) ?_
  refine tS 47 7 (hy:=by intro wq hRq;have e0:=(x0.below hRq).c0;have e1:=(x0.below hRq).c1;have e2:=(x1.below hRq).c0;have e3:=(x1.below hRq).c1;go_simp;(try with_reducible rfl)) ?_
  refine tS 48 8 (hy:=by intro wq hRq;have e0:=(x0.below hRq).c0;have e1:=(x0.below hRq).c1;have e2:=(x1.below hRq).c0;have e3:=(x1.below hRq).c1;go_simp;(try with_reducible rfl)) ?_
  refine wpAnyS_ready (rs:=[9]) (by kernel_rfl) (by simp) ?_
  refine stepR (i:=9) rfl (by kernel_rfl) (fun K hK=>?_) (AllReadyS.nil)
  have hq:=HTM.out _ hR
  go_simp
  refine hq.mono ?_
  rintro e wn ⟨mt,lt,rfl,hbt,hlt,hmt,hnt,_,hBt⟩
  have HVT:Hid (IsBig wn (.agg #[.bool (m1 != m2),.slice (some ⟨wd.heap.size,0,none⟩) mt (l1.length+l2.length+1)]) (x * y) 200):=Lib.hid ⟨m1 != m2,_,lt.take mt,n1 * n2,rfl,hbt.isTake hmt hlt,hnt,HSG.out,by rw [List.length_take];omega⟩
  replace hR:Below W0.heap.size W0 wn:=below_trans' hR hBt
  clear hbt hlt hmt hnt hBt hq
  refine hK.out _ _ hR ?_
  clear hK K
  (try simp only [Act.put,bw7,bw8,bw9])
  refine tS 50 10 (hy:=by intro wq hRq;have e0:=(x0.below hRq).c0;have e1:=(x0.below hRq).c1;have e2:=(x1.below hRq).c0;have e3:=(x1.below hRq).c1;go_simp;(try with_reducible rfl)) ?_
  refine wpAnyS_ready (rs:=[11]) (by kernel_rfl) (by simp) ?_
  refine stepR (i:=11) rfl (by kernel_rfl) (fun K hK=>?_) (AllReadyS.nil)
  have hq:=HRS.out _ _ hR HVT.out
  go_simp
  refine hq.mono ?_
  intro e wm hr
  obtain ⟨r,c,rfl,hr,hBm⟩:=retX_val hr
  have HR:=Lib.hid (hr.trans (below_trans' hb5 hR))
  replace hR:Below W0.heap.size W0 wm:=below_trans' hR hBm
  clear hr hBm hq
  refine hK.out _ _ hR ?_
  clear hK K
  (try simp only [Act.put,bw7,bw8,bw9])
  refine tS 52 12 (hy:=by intro wq hRq;have e0:=(x0.below hRq).c0;have e1:=(x0.below hRq).c1;have e2:=(x1.below hRq).c0;have e3:=(x1.below hRq).c1;go_simp;(try with_reducible rfl)) ?_
  refine tS 53 13 (hy:=by intro wq hRq;have e0:=(x0.below hRq).c0;have e1:=(x0.below hRq).c1;have e2:=(x1.below hRq).c0;have e3:=(x1.below hRq).c1;go_simp;(try with_reducible rfl)) ?_
  refine tS 4 14 (hy:=by intro wq hRq;have e0:=(x0.below hRq).c0;have e1:=(x0.below hRq).c1;have e2:=(x1.below hRq).c0;have e3:=(x1.below hRq).c1;go_simp;(try with_reducible rfl)) ?_
  refine tS 5 15 (hy:=by intro wq hRq;have e0:=(x0.below hRq).c0;have e1:=(x0.below hRq).c1;have e2:=(x1.below hRq).c0;have e3:=(x1.below hRq).c1;go_simp;(try with_reducible rfl)) ?_
  refine wpAnyS_done (by kernel_rfl) ?_ _
  refine hN.out _ _ ?_
  go_wp2_with fail
  go_ret2
  exact HR.out
end Go.Proofs.YteepphiomcedfaaGreatDoor
namespace Go.Proofs.YteepphiomcedfaaGreatDoor
open Go.RowKit Go.Shelf
theorem divideL_ok {a b:List Int} {x y:Int} (va vb:Value) (w:World) (hva:IsInts w va a) (hvb:IsInts w vb b) (ha:Num a x) (hb:Num b y) (hal:a.length≤800) (hbl:b.length≤800) (hy:0 < y) :
  Calls Tryz.prog 166 #[va,vb] w (RetDiv (x / y) (x % y) (max a.length 1) w):=by
 by_cases hlt:x < y
 ·exact divide_less va vb w hva hvb ha hb (by omega) (by omega) hlt
 ·have hb0:b.length≠0:=fun h=>by have:=hb.zero.1 h;omega
  by_cases h1:b.length=1
  ·exact divide_one va vb w hva hvb ha hb (by omega) h1 (by omega)
  ·exact divide_long va vb w hva hvb ha hb hal hbl (by omega) (by omega)
theorem gcd_step {p q:Int} (hp:0≤p) (hq:0≤q):Int.gcd q (p % q)=Int.gcd p q:=by
 obtain ⟨P,rfl⟩:∃ P:Nat,p=P:=⟨p.toNat,by omega⟩
 obtain ⟨Q,rfl⟩:∃ Q:Nat,q=Q:=⟨q.toNat,by omega⟩
 have e:((P:Int) % (Q:Int))=((P % Q:Nat):Int):=by simp
 rw [e,Int.gcd_natCast_natCast,Int.gcd_natCast_natCast,Nat.gcd_comm Q,Nat.gcd_comm P]
 exact (Nat.gcd_rec Q P).symm
theorem run_fieldN (x:Value) (a:Option Addr) (n c:Nat) (w:World):(Instr.field 151 (.agg #[x,.slice a n c]) 1).run Tryz.prog w=.ok (.slice a n c) w:=by kernel_rfl
theorem IGcd_ok (x y:Int) (s t:ByteArray) (w:World) (hG:Glo w) (hs:s.data.toList=Lib.itoa x) (hx:Fit x) (ht:t.data.toList=Lib.itoa y) (hy:Fit y) :
  Calls Tryz.prog 138 #[.string s,.string t] w (RetX (Int.gcd x y:Nat) w):=by
 have hsz:=fit_size hs hx
 have htz:=fit_size ht hy
 by_cases hb:s.size≤18∧t.size≤18
 ·refine (Gcd_small x y s t w hG hs hb.1 ht hb.2).mono fun e w' h=>h.x ?_
  by_cases h0:x=0
  ·rw [h0,Int.gcd_zero_left]
   exact fit18 (by have:=lt18 ht hb.2;omega)
  ·have h1:=Nat.gcd_le_left y.natAbs (show 0 < x.natAbs by omega)
   exact fit18 (by have:=lt18 hs hb.1;unfold Int.gcd;omega)
 ·have HS:=Lib.hid hs
  have HT:=Lib.hid ht
  have HX:=Lib.hid hx
  have HY:=Lib.hid hy
  have HG:=Lib.hid hG
  have hfd:=run_fieldN
  clear hs ht hx hy hG
  go_enter Tryz.func138,Tryz.ntmps138
  go_wp2_with fail
  refine (Iboth_ok x y s t _ HS.out HX.out HT.out HY.out).mono ?_
  rintro e w1 ⟨rfl,hB1⟩
  go_wp2_with fail
  refine (small_long s t _ (by omega)).mono ?_
  rintro e w2 ⟨rfl,hB2⟩
  have hb2:Below w.heap.size w w2:=qbl
  clear hB1 hB2
  go_wp2_with fail
  refine (iread_ok x s _ HS.out (by omega)).mono ?_
  rintro e w3 ⟨v1,rfl,hv1,hB3⟩
  have hb3:Below w.heap.size w w3:=below_trans' hb2 hB3
  obtain ⟨m1,a1,l1,c1,n1,rfl,i1,d1,z1,q1⟩:=hv1.parts
  have HI1:=Lib.hid i1
  have Z1:=Lib.hid z1
  clear hv1 hB3 i1 z1
  go_wp2_with fail
  refine (iread_ok y t _ HT.out (by omega)).mono ?_
  rintro e w4 ⟨v2,rfl,hv2,hB4⟩
  have hb4:Below w.heap.size w w4:=below_trans' hb3 hB4
  obtain ⟨m2,a2,l2,c2,n2,rfl,i2,d2,z2,q2⟩:=hv2.parts
  have HI1':=Lib.hid (HI1.out.below hB4)
  have HI2:=Lib.hid i2
  have HD1:=Lib.hid d1
  have HD2:=Lib.hid d2
  have HG0:Hid (Int.gcd n1 n2=Int.gcd x y):=Lib.hid (by rw [Z1.out,z2];cases m1<;>cases m2<;>simp [sgnV])
  have hq1:l1.length≤40:=by omega
  have hq2:l2.length≤40:=by omega
  clear hv2 hB4 i2 d1 d2 z2 HI1
  go_wp2_with fail
  go_loopg [10,11] (n2.toNat) (fun g a b wr=>∃ (la lb:List Int) (pa pb:Option Addr) (ca cb:Nat) (p q:Int),g=q.toNat∧a=.slice pa la.length ca∧b=.slice pb lb.length cb∧Hid (IsInts wr (.slice pa la.length ca) la)∧Hid (IsInts wr (.slice pb lb.length cb) lb)∧Hid (Num la p)∧Hid (Num lb q)∧la.length≤40∧lb.length≤40∧Hid (Int.gcd p q=Int.gcd x y)∧Below w.heap.size w wr)
  case atStart=>exact ⟨l1,l2,a1,a2,c1,c2,n1,n2,rfl,rfl,rfl,HI1',HI2,HD1,HD2,hq1,hq2,HG0,hb4⟩
  case round =>
   clear hq1 hq2 HG0 HI1' HI2 HD1 HD2
   obtain ⟨la,lb,pa,pb,ca,cb,p,q,rfl,rfl,rfl,HIA,HIB,HDA,HDB,hla,hlb,HGG,hBr⟩:=hrel
   by_cases h0:lb.length=0
   ·have hn0:¬ (0:Int) < (lb.length:Int):=by omega
    have hq0:q=0:=HDB.out.zero.1 h0
    have hp0:=HDA.out.high.1
    have HZ:Hid (IsBig wr (.agg #[.bool false,.slice pa la.length ca]) (Int.gcd x y:Nat) 40):=Lib.hid ⟨false,_,la,p,rfl,HIA.out,HDA.out,by rw [← HGG.out,hq0,Int.gcd_zero_right];show ((p.natAbs:Nat):Int)=p;omega,hla⟩
    clear hq0
    go_wp2_with fail
    refine (result_ok _ _ (HG.out.below hBr) HZ.out (by omega)).mono ?_
    intro e w6 hr
    obtain ⟨r,c,rfl,hr,hB6⟩:=retX_val hr
    have HR:=Lib.hid (hr.trans hBr)
    clear hr hB6
    go_wp2_with fail
    go_ret2
    exact HR.out
   ·have hn0:(0:Int) < (lb.length:Int):=by omega
    have hq0:0 < q:=by
     have h1:=HDB.out.low h0
     have h2:=pw_pos (lb.length - 1)
     omega
    have HDV:=Lib.hid (divideL_ok _ _ wr HIA.out HIB.out HDA.out HDB.out (by omega) (by omega) hq0)
    go_wp2_with fail
    refine HDV.out.mono ?_
    rintro e wd ⟨lq,vq,lr,vr,rfl,iq,ir,nq,nr,kq,kr,hBd⟩
    obtain ⟨qa,qc,rfl⟩:=iq.slice
    obtain ⟨ra,rc,rfl⟩:=ir.slice
    have HIR:=Lib.hid ir
    have HNR:=Lib.hid nr
    have HIB':=Lib.hid (HIB.out.below hBd)
    have hBw:=hBr.trans (hBd.mono hBr.size)
    have hlr:lr.length≤40:=by omega
    have hr1:p % q < q:=Int.emod_lt_of_pos _ hq0
    have hr0:0≤p % q:=Int.emod_nonneg _ (by omega)
    have HG2:Hid (Int.gcd q (p % q)=Int.gcd x y):=Lib.hid (by rw [← HGG.out];exact gcd_step HDA.out.high.1 (by omega))
    clear iq ir nq nr kq kr hBd
    go_wp2_with fail
    go_roundg ((p % q).toNat)
    case rel=>exact ⟨lb,lr,pb,ra,cb,rc,q,p % q,rfl,rfl,rfl,HIB',HIR,HDB,HNR,hlb,hlr,HG2,hBw⟩
    case measure=>omega
end Go.Proofs.YteepphiomcedfaaGreatDoor
namespace Go.Proofs.YteepphiomcedfaaGreatDoor
open Go.RowKit Go.Shelf
def RetQR (q r:Int) (w:World) (e:Ending) (w':World):Prop:=∃ a b:ByteArray,a.data.toList=Lib.itoa q∧b.data.toList=Lib.itoa r∧e=.returned (.tuple #[.string a,.string b,.int .i64 0])∧Below w.heap.size w w'
theorem sgn_div {m:Bool} {n y:Int} (hy:0 < y) (hc:n % y=0∨m=false):sgnV m n / y=sgnV m (n / y)∧sgnV m n % y=n % y:=by
 cases m
 ·exact ⟨rfl,rfl⟩
 ·have h0:n % y=0:=hc.resolve_right (by simp)
  have hd:y ∣ n:=Int.dvd_of_emod_eq_zero h0
  refine ⟨?_,?_⟩
  ·show -n / y=-(n / y)
   exact Int.neg_ediv_of_dvd hd
  ·show -n % y=n % y
   rw [h0]
   exact Int.emod_eq_zero_of_dvd (Int.dvd_neg.2 hd)
theorem fit_le {a b:Int} (h:a.natAbs≤b.natAbs) (hb:Fit b):Fit a:=fit_of_lt (Nat.lt_of_le_of_lt h ((fit_iff b).1 hb))
theorem IDivide_ok (x y:Int) (s t:ByteArray) (w:World) (hG:Glo w) (hs:s.data.toList=Lib.itoa x) (hx:Fit x) (ht:t.data.toList=Lib.itoa y) (hy:Fit y) (hy0:0 < y) (hc:x % y=0∨0≤x) :
  Calls Tryz.prog 103 #[.string s,.string t] w (RetQR (x / y) (x % y) w):=by
 have hsz:=fit_size hs hx
 have htz:=fit_size ht hy
 by_cases hb:s.size≤18∧t.size≤18
 ·exact Divide_small x y s t w hG hs hb.1 ht hb.2 hy0
 ·have hne:(t.toList == [48])=false:=ne_of_list ht (itoa_ne0 (by omega))
  have hfq:Fit (x / y):=fit_le (by
   rcases hc with h|h
   ·have e:x=x / y * y:=by have:=Int.mul_ediv_add_emod x y;rw [h] at this;rw [Int.mul_comm];omega
    rw [e,Int.mul_ediv_cancel _ (by omega),Int.natAbs_mul]
    exact Nat.le_mul_of_pos_right _ (by omega)
   ·have h1:=Int.ediv_nonneg h (show 0≤y by omega)
    have h2:=Int.ediv_le_self y h
    omega) hx
  have hfr:Fit (x % y):=fit_le (by
   have h1:=Int.emod_nonneg x (show y≠0 by omega)
   have h2:=Int.emod_lt_of_pos x hy0
   omega) hy
  have HS:=Lib.hid hs
  have HT:=Lib.hid ht
  have HX:=Lib.hid hx
  have HY:=Lib.hid hy
  have HG:=Lib.hid hG
  have HFQ:=Lib.hid hfq
  have HFR:=Lib.hid hfr
  clear hs ht hx hy hG hfq hfr
  go_enter Tryz.func103,Tryz.ntmps103
  go_wp2_with fail
  refine (Iboth_ok x y s t _ HS.out HX.out HT.out HY.out).mono ?_
  rintro e w1 ⟨rfl,hB1⟩
  go_wp2_with fail
  refine (small_long s t _ (by omega)).mono ?_
  rintro e w2 ⟨rfl,hB2⟩
  have hb2:Below w.heap.size w w2:=qbl
  clear hB1 hB2
  go_wp2_with fail
  refine (iread_ok x s _ HS.out (by omega)).mono ?_
  rintro e w3 ⟨v1,rfl,hv1,hB3⟩
  have hb3:Below w.heap.size w w3:=below_trans' hb2 hB3
  obtain ⟨m1,a1,l1,c1,n1,rfl,i1,d1,z1,q1⟩:=hv1.parts
  have HI1:=Lib.hid i1
  have Z1:=Lib.hid z1
  clear hv1 hB3 i1 z1
  go_wp2_with fail
  refine (iread_ok y t _ HT.out (by omega)).mono ?_
  rintro e w4 ⟨v2,rfl,hv2,hB4⟩
  have hb4:Below w.heap.size w w4:=below_trans' hb3 hB4
  obtain ⟨m2,a2,l2,c2,n2,rfl,i2,d2,z2,q2⟩:=hv2.parts
  have hn2:=d2.high.1
  obtain rfl:m2=false:=by
   cases m2
   ·rfl
   ·exfalso;simp [sgnV] at z2;omega
  obtain rfl:n2=y:=z2.symm
  have hn1:=d1.high.1
  have hcc:n1 % n2=0∨m1=false:=by
   rcases hc with h|h
   ·cases m1
    ·exact .inr rfl
    ·left
     rw [Z1.out] at h
     have hd:n2 ∣ -n1:=Int.dvd_of_emod_eq_zero h
     exact Int.emod_eq_zero_of_dvd (Int.dvd_neg.1 hd)
   ·cases m1
    ·exact .inr rfl
    ·left
     rw [Z1.out] at h
     have:n1=0:=by simp [sgnV] at h;omega
     rw [this];rfl
  obtain ⟨e1,e2⟩:=sgn_div hy0 hcc
  have E1:=Lib.hid e1
  have E2:=Lib.hid e2
  have HCC:=Lib.hid hcc
  have HB0:=Lib.hid (And.intro (HI1.out.below hB4) (And.intro i2 (And.intro d1 d2)))
  have hq1:l1.length≤40:=by omega
  have hq2:l2.length≤40:=by omega
  clear hv2 hB4 i2 d1 d2 z2 HI1 hcc e1 e2 hc
  have HDV:=Lib.hid (fun (W:World) (hB:Below w4.heap.size w4 W)=>divideL_ok _ _ W (HB0.out.1.below hB) (HB0.out.2.1.below hB) HB0.out.2.2.1 HB0.out.2.2.2 (by omega) (by omega) hy0)
  have hBy:Below w4.heap.size w4 ((w4.alloc (.cells #[.bool m1,.slice a1 l1.length c1] 151)).alloc (.cells #[.bool false,.slice a2 l2.length c2] 151)):=bw4 (bw4 (bw0 _ _) _) _
  go_wp2_with fail
  refine (HDV.out _ hBy).mono ?_
  rintro e w5 ⟨lq,vq,lr,vr,rfl,iq,ir,nq,nr,kq,kr,hB5⟩
  obtain ⟨qa,qc,rfl⟩:=iq.slice
  obtain ⟨ra,rc,rfl⟩:=ir.slice
  have hb5:Below w.heap.size w w5:=below_trans' (below_trans' hb4 hBy) hB5
  have x0:BoxN w5 w4.heap.size (.bool m1) (.slice a1 l1.length c1):=((BoxN.new rfl).below (bw4 (bw0 _ _) _)).below hB5
  have x1:BoxN w5 (w4.heap.size+1) (.bool false) (.slice a2 l2.length c2):=(BoxN.new (by simp)).below hB5
  have HQ:Hid (IsBig w5 (.agg #[.bool m1,.slice qa lq.length qc]) (x / n2) 40):=Lib.hid ⟨m1,_,lq,_,rfl,iq,nq,by rw [Z1.out];exact E1.out,by omega⟩
  have HR:Hid (IsBig w5 (.agg #[.bool false,.slice ra lr.length rc]) (x % n2) 40):=Lib.hid ⟨false,_,lr,_,rfl,ir,nr,by rw [Z1.out];exact E2.out,by omega⟩
  have hlr:m1=true→lr.length=0:=fun hm=>nr.zero.2 (HCC.out.resolve_right (by rw [hm];simp))
  have p0:=x0.c0
  have p1:=x0.c1
  have p2:=x1.c0
  have p3:=x1.c1
  clear iq ir nq nr kq kr hB5 hBy HDV HB0 x0 x1
  cases m1
  ·go_wp2_with fail
   refine (result_ok _ _ (HG.out.below hb5) HQ.out (by omega)).mono ?_
   intro e w6 hr
   obtain ⟨rq,hrq,rfl,hB6⟩:=hr.1 HFQ.out
   have HRQ:=Lib.hid hrq
   have p4:=keep hB6 p2
   have hb6:=below_trans' hb5 hB6
   have HR':=Lib.hid (HR.out.below hB6)
   clear hr hrq
   go_wp2_with fail
   refine (result_ok _ _ (HG.out.below hb6) HR'.out (by omega)).mono ?_
   intro e w7 hr
   obtain ⟨rr,hrr,rfl,hB7⟩:=hr.1 HFR.out
   have HRR:=Lib.hid hrr
   have hb7:=below_trans' hb6 hB7
   clear hr hrr
   go_wp2_with fail
   go_ret3
   exact ⟨rq,rr,HRQ.out,HRR.out,rfl,hb7⟩
  ·have hl0:=hlr rfl
   have hl1:¬ (0:Int) < (lr.length:Int):=by omega
   clear hl0 hlr
   go_wp2_with fail
   refine (result_ok _ _ (HG.out.below hb5) HQ.out (by omega)).mono ?_
   intro e w6 hr
   obtain ⟨rq,hrq,rfl,hB6⟩:=hr.1 HFQ.out
   have HRQ:=Lib.hid hrq
   have p4:=keep hB6 p2
   have hb6:=below_trans' hb5 hB6
   have HR':=Lib.hid (HR.out.below hB6)
   clear hr hrq
   go_wp2_with fail
   refine (result_ok _ _ (HG.out.below hb6) HR'.out (by omega)).mono ?_
   intro e w7 hr
   obtain ⟨rr,hrr,rfl,hB7⟩:=hr.1 HFR.out
   have HRR:=Lib.hid hrr
   have hb7:=below_trans' hb6 hB7
   clear hr hrr
   go_wp2_with fail
   go_ret3
   exact ⟨rq,rr,HRQ.out,HRR.out,rfl,hb7⟩
end Go.Proofs.YteepphiomcedfaaGreatDoor
namespace Go.Proofs.YteepphiomcedfaaGreatDoor
open Go.RowKit Go.Shelf
theorem sgnV_not (m:Bool) (n:Int):sgnV (!m) n=- sgnV m n:=by cases m<;>simp [sgnV]
theorem compareInt_of {x y:Int} {c:Int} (h0:c=0↔x=y) (h1:c=-1↔x < y) (h2:c=0∨c=-1∨c=1):Lib.compareInt x y=c:=by
 unfold Lib.compareInt
 split<;>(try split)<;>omega
theorem ICompare_ok (x y:Int) (s t:ByteArray) (w:World) (hs:s.data.toList=Lib.itoa x) (hx:Fit x) (ht:t.data.toList=Lib.itoa y) (hy:Fit y) :
  Calls Tryz.prog 74 #[.string s,.string t] w (RetB (.tuple #[.int .i64 (Lib.compareInt x y),.int .i64 0]) w):=by
 have hsz:=fit_size hs hx
 have htz:=fit_size ht hy
 by_cases hb:s.size≤18∧t.size≤18
 ·exact ICompare_small x y s t w hs hb.1 ht hb.2
 ·have HS:=Lib.hid hs
  have HT:=Lib.hid ht
  have HX:=Lib.hid hx
  have HY:=Lib.hid hy
  clear hs ht hx hy
  go_enter Tryz.func74,Tryz.ntmps74
  go_wp2_with fail
  refine (Iboth_ok x y s t _ HS.out HX.out HT.out HY.out).mono ?_
  rintro e w1 ⟨rfl,hB1⟩
  go_wp2_with fail
  refine (small_long s t _ (by omega)).mono ?_
  rintro e w2 ⟨rfl,hB2⟩
  have hb2:Below w.heap.size w w2:=qbl
  clear hB1 hB2
  go_wp2_with fail
  refine (iread_ok x s _ HS.out (by omega)).mono ?_
  rintro e w3 ⟨v1,rfl,hv1,hB3⟩
  have hb3:Below w.heap.size w w3:=below_trans' hb2 hB3
  have HV1:=Lib.hid hv1
  obtain ⟨m1,a1,l1,c1,n1,rfl,_⟩:=hv1.parts
  clear hv1 hB3
  go_wp2_with fail
  refine (iread_ok y t _ HT.out (by omega)).mono ?_
  rintro e w4 ⟨v2,rfl,hv2,hB4⟩
  have hb4:Below w.heap.size w w4:=below_trans' hb3 hB4
  have HV1':=Lib.hid (HV1.out.below hB4)
  obtain ⟨m2,a2,l2,c2,n2,rfl,i2,d2,z2,q2⟩:=hv2.parts
  have HV2:Hid (IsBig w4 (.agg #[.bool (!m2),.slice a2 l2.length c2]) (-y) ((t.size+8) / 9)):=Lib.hid ⟨!m2,_,l2,n2,rfl,i2,d2,by rw [sgnV_not,z2],q2⟩
  clear hv2 hB4 i2 d2 z2 q2
  go_wp2_with fail
  refine (addL_ok _ _ _ (HV1'.out.below qbl) (HV2.out.below qbl) (by omega) (by omega)).mono ?_
  rintro e w5 ⟨v3,rfl,hv3,hB5⟩
  have hb5:Below w.heap.size w w5:=qbl
  obtain ⟨m3,a3,l3,c3,n3,rfl,i3,d3,z3,_⟩:=hv3.parts
  have hz:=d3.zero
  have hnn:=d3.high.1
  clear hv3 hB5 i3 d3 HV1 HV1' HV2
  by_cases h0:l3.length=0
  ·have h0b:((l3.length:Int) == 0)=true:=by rw [h0];rfl
   have hc:Lib.compareInt x y=0:=compareInt_of (by have:=hz.1 h0;rw [this] at z3;cases m3<;>simp [sgnV] at z3<;>omega) (by have:=hz.1 h0;rw [this] at z3;cases m3<;>simp [sgnV] at z3<;>omega) (by omega)
   have HC:=Lib.hid hc
   clear hz z3 hc h0
   go_wp2_with fail
   go_ret2
   exact ⟨by rw [HC.out];rfl,qbl⟩
  ·have h0b:((l3.length:Int) == 0)=false:=by rw [beq_eq_false_iff_ne];omega
   have hne:n3≠0:=fun h=>h0 (hz.2 h)
   cases m3
   ·have hc:Lib.compareInt x y=1:=compareInt_of (by simp [sgnV] at z3;omega) (by simp [sgnV] at z3;omega) (by omega)
    have HC:=Lib.hid hc
    clear hz z3 hc h0
    go_wp2_with fail
    go_ret2
    exact ⟨by rw [HC.out];rfl,qbl⟩
   ·have hc:Lib.compareInt x y=-1:=compareInt_of (by simp [sgnV] at z3;omega) (by simp [sgnV] at z3;omega) (by omega)
    have HC:=Lib.hid hc
    clear hz z3 hc h0
    go_wp2_with fail
    go_ret2
    exact ⟨by rw [HC.out];rfl,qbl⟩
end Go.Proofs.YteepphiomcedfaaGreatDoor
