/- Joined texts: WDivN, WRFloor, WFloorN, WFloorZ, WEnc, WEncO, WEncOf, WEncOg, AtoiPlain. -/
import Derived.Test.YthihcjgmlbnapaaGreatDoorJ08
import Derived.Test.YthihcjgmlbnapaaGreatDoorJ04
import Derived.Test.YthihcjgmlbnapaaGreatDoorJ16
import Derived.Test.YthihcjgmlbnapaaGreatDoorJ15
import Derived.Test.YthihcjgmlbnapaaGreatDoorJ10
import Derived.Test.YthihcjgmlbnapaaGreatDoorJ09
import Derived.Test.YthihcjgmlbnapaaGreatDoorJ02
import Derived.Test.YthihcjgmlbnapaaGreatDoorJ01
import Derived.Lib.AtoiAllCases
set_option maxRecDepth 100000
set_option linter.unusedVariables false
set_option linter.unusedSimpArgs false
set_option maxHeartbeats 12800000
namespace Go.Proofs.YthihcjgmlbnapaaGreatDoor
open Go.RowKit
attribute [local go_sem] Oper.semAt_some
theorem after_allocD {K:Act→World→Prop} {a:Act} {X:World} {o:Obj} (h:∀ W,Below X.heap.size X W→W.heap[X.heap.size]?=some o→X.heap.size < W.heap.size→K a W):K a (X.alloc o) :=
 h _ (bw4 (bw0 _ _) _) Array.getElem?_push_size (by simp)
theorem isInts_box {W:World} {b:Nat} {t:TypeId} (h:W.heap[b]?=some (.cells #[.int .i64 1] t (0,0))):IsInts W (.slice (some ⟨b,0,none⟩) 1 1) [1] :=
 ⟨some ⟨b,0,none⟩,1,rfl,by decide,fun _=>⟨b,0,rfl,fun k hk=>by
  obtain rfl:k=0:=by simpa using hk
  simp only [World.cell?,h];rfl⟩⟩
theorem num_1:Num [1] 1:=num_one (by omega) (by omega)
theorem IDivideN_ok (x y:Int) (s t:ByteArray) (w:World) (hG:Glo w) (hs:s.data.toList=Lib.itoa x) (hx:Fit x) (ht:t.data.toList=Lib.itoa y) (hy:Fit y) (hy0:0 < y) (hb:¬ (s.size≤18∧t.size≤18)) (hc:x % y≠0) (hx0:x < 0) :
  Calls Tryz.prog 81 #[.string s,.string t] w (RetQR (x / y) (x % y) w):=by
 have hsz:=fit_size hs hx
 have htz:=fit_size ht hy
 have hne:(t.toList == [48])=false:=ne_of_list ht (itoa_ne0 (by omega))
 have hfq:Fit (x / y):=fit_le (by
  have h1:=Int.mul_ediv_add_emod x y
  have h2:=Int.emod_lt_of_pos x hy0
  have h3:=Int.emod_nonneg x (show y≠0 by omega)
  have h4:x≤x / y:=by
   have h5:y * (x / y)≤x:=by omega
   have h6:x / y < 0:=by
    refine Int.not_le.1 fun h=>?_
    have:=Int.mul_nonneg (show 0≤y by omega) h
    omega
   have h7:x / y * y≤x / y * 1:=Int.mul_le_mul_of_nonpos_left (by omega) (by omega)
   have h8:x < y * (x / y)+y:=by omega
   -- x/y >= x:(x/y+1) * y > x
   refine Int.not_lt.1 fun h=>?_
   have h9:x / y+1≤x:=by omega
   have h10:(x / y+1) * y≤x * y:=Int.mul_le_mul_of_nonneg_right h9 (by omega)
   have h11:x * y≤x * 1:=Int.mul_le_mul_of_nonpos_left (by omega) (by omega)
   rw [Int.add_mul,Int.mul_comm (x / y) y] at h10
   omega
  have h6:x / y < 0:=by
   refine Int.not_le.1 fun h=>?_
   have:=Int.mul_nonneg (show 0≤y by omega) h
   omega
  omega) hx
 have hfr:Fit (x % y):=fit_le (by
  have h1:=Int.emod_nonneg x (show y≠0 by omega)
  have h2:=Int.emod_lt_of_pos x hy0
  omega) hy
 have HS:=Lib.hid hs
 have HT:=Lib.hid ht
 have HX:=Lib.hid hx
 have HY:=Lib.hid hy
 have HG:=Lib.hid hG
 have HFQ:=Lib.hid hfq
 have HFR:=Lib.hid hfr
 clear hs ht hx hy hG hfq hfr
 go_enter Tryz.func81,Tryz.ntmps81
 go_wp2_with fail
 refine (Iboth_ok x y s t _ HS.out HX.out HT.out HY.out).mono ?_
 rintro e w1 ⟨rfl,hB1⟩
 go_wp2_with fail
 refine (small_long s t _ (by omega)).mono ?_
 rintro e w2 ⟨rfl,hB2⟩
 have hb2:Below w.heap.size w w2:=qbl
 clear hB1 hB2
 go_wp2_with fail
 refine (iread_ok x s _ HS.out (by omega)).mono ?_
 rintro e w3 ⟨v1,rfl,hv1,hB3⟩
 have hb3:Below w.heap.size w w3:=below_trans' hb2 hB3
 obtain ⟨m1,a1,l1,c1,n1,rfl,i1,d1,z1,q1⟩:=hv1.parts
 have HI1:=Lib.hid i1
 have Z1:=Lib.hid z1
 clear hv1 hB3 i1 z1
 go_wp2_with fail
 refine (iread_ok y t _ HT.out (by omega)).mono ?_
 rintro e w4 ⟨v2,rfl,hv2,hB4⟩
 have hb4:Below w.heap.size w w4:=below_trans' hb3 hB4
 obtain ⟨m2,a2,l2,c2,n2,rfl,i2,d2,z2,q2⟩:=hv2.parts
 have hn2:=d2.high.1
 obtain rfl:m2=false:=by
  cases m2
  ·rfl
  ·exfalso;simp [sgnV] at z2;omega
 obtain rfl:n2=y:=z2.symm
 have hn1:=d1.high.1
 obtain rfl:m1=true:=by
  cases m1
  ·exfalso;simp [sgnV] at Z1;have:=Z1.out;omega
  ·rfl
 have hxn:x=-n1:=Z1.out
 have hr0:n1 % n2≠0:=fun h=>hc (by rw [hxn];exact Int.emod_eq_zero_of_dvd (Int.dvd_neg.2 (Int.dvd_of_emod_eq_zero h)))
 obtain ⟨e1,e2⟩:x / n2=-(n1 / n2+1)∧x % n2=n2 - n1 % n2:=by
  rw [hxn]
  have h1:=Int.mul_ediv_add_emod n1 n2
  have h2:=Int.emod_lt_of_pos n1 hy0
  have h3:=Int.emod_nonneg n1 (show n2≠0 by omega)
  have h4 : -n1=(n2 - n1 % n2)+n2 * (-(n1 / n2+1)):=by
   have:n2 * (-(n1 / n2+1))=-(n2 * (n1 / n2)) - n2:=by rw [Int.mul_neg,Int.mul_add,Int.mul_one];omega
   omega
  rw [h4]
  have h5:0≤n2 - n1 % n2:=by omega
  have h6:n2 - n1 % n2 < n2:=by omega
  rw [Int.add_mul_ediv_left _ _ (by omega),Int.add_mul_emod_self_left,Int.ediv_eq_zero_of_lt h5 h6,Int.emod_eq_of_lt h5 h6]
  exact ⟨by omega,rfl⟩
 have HR0:=Lib.hid hr0
 have HRB:=Lib.hid (show n1 % n2≤n2 by have:=Int.emod_lt_of_pos n1 hy0;omega)
 have E1:=Lib.hid e1
 have E2:=Lib.hid e2
 have HB0:=Lib.hid (And.intro (HI1.out.below hB4) (And.intro i2 (And.intro d1 d2)))
 have hq1:l1.length≤40:=by omega
 have hq2:l2.length≤40:=by omega
 clear hv2 hB4 i2 d1 d2 z2 HI1 e1 e2 hc hr0 hxn hx0
 have HDV:=Lib.hid (fun (W:World) (hB:Below w4.heap.size w4 W)=>divideL_ok _ _ W (HB0.out.1.below hB) (HB0.out.2.1.below hB) HB0.out.2.2.1 HB0.out.2.2.2 (by omega) (by omega) hy0)
 have hBy:Below w4.heap.size w4 ((w4.alloc (.cells #[.bool true,.slice a1 l1.length c1] 207)).alloc (.cells #[.bool false,.slice a2 l2.length c2] 207)):=bw4 (bw4 (bw0 _ _) _) _
 go_wp2_with fail
 refine (HDV.out _ hBy).mono ?_
 rintro e w5 ⟨lq,vq,lr,vr,rfl,iq,ir,nq,nr,kq,kr,hB5⟩
 obtain ⟨qa,qc,rfl⟩:=iq.slice
 obtain ⟨ra,rc,rfl⟩:=ir.slice
 have hb5:Below w.heap.size w w5:=below_trans' (below_trans' hb4 hBy) hB5
 have x0:BoxN w5 w4.heap.size (.bool true) (.slice a1 l1.length c1):=((BoxN.new rfl).below (bw4 (bw0 _ _) _)).below hB5
 have x1:BoxN w5 (w4.heap.size+1) (.bool false) (.slice a2 l2.length c2):=(BoxN.new (by simp)).below hB5
 have p0:=x0.c0
 have p1:=x0.c1
 have p2:=x1.c0
 have p3:=x1.c1
 have hl1:(0:Int) < (lr.length:Int):=by
  have h:lr.length≠0:=fun h=>HR0.out (nr.zero.1 h)
  omega
 have HIQ:=Lib.hid iq
 have HIR:=Lib.hid ir
 have HNQ:=Lib.hid nq
 have HNR:=Lib.hid nr
 have hb45:Below w4.heap.size w4 w5:=below_trans' hBy hB5
 clear iq ir nq nr hB5 hBy HDV
 have hR:Below w5.heap.size w5 w5.drew:=(bw0 _ _).drew
 go_wp2_with fail
 refine region_S (F:=[]) (R:=(fun w'=>Below w5.heap.size w5 w')) 9 #[false,false,false,false,false,false,false,false,false] (by kernel_rfl) (by kernel_rfl) (by kernel_rfl) (fun _ _ _ _ _ h=>h) (fun Q' hQ' hN=>?_)
 generalize w5.drew=wd at *
 refine tkS 83 (i:=0) (v:=?_) (fw:=5) hQ' hR rfl ?_ ?_;rotate_left;(focus (intro wq hRq;have c1:=(x1.below hRq).c1;go_simp;(try with_reducible rfl)));(try simp only [Act.put,bw7,bw8,bw9])
 refine tkS 86 (i:=3) (v:=?_) (fw:=5) hQ' hR rfl ?_ ?_;rotate_left;(focus (intro wq hRq;have c1:=(x1.below hRq).c1;go_simp;(try with_reducible rfl)));(try simp only [Act.put,bw7,bw8,bw9])
 refine tkS 87 (i:=4) (v:=?_) (fw:=5) hQ' hR rfl ?_ ?_;rotate_left;(focus (intro wq hRq;have c1:=(x1.below hRq).c1;go_simp;(try with_reducible rfl)));(try simp only [Act.put,bw7,bw8,bw9])
 refine tkS 88 (i:=5) (v:=?_) (fw:=5) hQ' hR rfl ?_ ?_;rotate_left;(focus (intro wq hRq;have c1:=(x1.below hRq).c1;go_simp;(try with_reducible rfl)));(try simp only [Act.put,bw7,bw8,bw9])
 refine wpAnyS_ready (rs:=[1]) (by kernel_rfl) (by simp) ?_
 refine stepR (i:=1) rfl (by kernel_rfl) (fun K hK=>?_) (AllReadyS.nil)
 go_simp
 refine after_allocD (fun wb hB' hvb hzb=>?_)
 have HI1:=Lib.hid (isInts_box hvb)
 replace hR:=below_trans' hR hB'
 obtain ⟨vb,hvb'⟩:∃ vb,wd.heap.size=vb:=⟨_,rfl⟩
 rw [hvb'] at HI1 ⊢
 clear hB' hzb hvb hvb'
 refine hK.out _ _ hR ?_
 clear hK K
 (try simp only [Act.put,bw7,bw8,bw9])
 refine wpAnyS_ready (rs:=[2]) (by kernel_rfl) (by simp) ?_
 refine stepR (i:=2) rfl (by kernel_rfl) (fun K hK=>?_) (AllReadyS.nil)
 go_simp
 refine (plusL_ok _ _ _ (HIQ.out.below hR) HI1.out HNQ.out num_1 (by omega) (by decide)).mono ?_
 rintro e wc ⟨lp,vp,rfl,op,np,kp,hB'⟩
 obtain ⟨pa,pc,rfl⟩:=op.is.slice
 have HIP:=Lib.hid op.is
 have HNP:=Lib.hid np
 replace hR:=below_trans' hR hB'
 clear hB' op np HI1
 refine hK.out _ _ hR ?_
 clear hK K
 (try simp only [Act.put,bw7,bw8,bw9])
 refine wpAnyS_ready (rs:=[6]) (by kernel_rfl) (by simp) ?_
 refine stepR (i:=6) rfl (by kernel_rfl) (fun K hK=>?_) (AllReadyS.nil)
 go_simp
 refine (minusL_ok _ _ _ (HB0.out.2.1.below (below_trans' hb45 hR)) (HIR.out.below hR) HB0.out.2.2.2 HNR.out (by omega) (by omega) HRB.out).mono ?_
 rintro e we ⟨lm,vm,rfl,om,nm,km,hB'⟩
 obtain ⟨ma,mc,rfl⟩:=om.is.slice
 have HIM:=Lib.hid om.is
 have HNM:=Lib.hid nm
 replace HIP:=Lib.hid (HIP.out.below hB')
 replace hR:=below_trans' hR hB'
 clear hB' om nm
 refine hK.out _ _ hR ?_
 clear hK K
 (try simp only [Act.put,bw7,bw8,bw9])
 refine tkS 15 (i:=7) (v:=?_) (fw:=5) hQ' hR rfl ?_ ?_;rotate_left;(focus (intro wq hRq;have c1:=(x1.below hRq).c1;go_simp;(try with_reducible rfl)));(try simp only [Act.put,bw7,bw8,bw9])
 refine tkS 16 (i:=8) (v:=?_) (fw:=5) hQ' hR rfl ?_ ?_;rotate_left;(focus (intro wq hRq;have c1:=(x1.below hRq).c1;go_simp;(try with_reducible rfl)));(try simp only [Act.put,bw7,bw8,bw9])
 refine wpAnyS_done (by kernel_rfl) ?_ _
 refine hN.out _ _ ?_
 have hb6:=below_trans' hb5 hR
 have p0:=(x0.below hR).c0
 have p2:=(x1.below hR).c0
 have HQ:Hid (IsBig we (.agg #[.bool true,.slice pa lp.length pc]) (x / n2) 42):=Lib.hid ⟨true,_,lp,_,rfl,HIP.out,HNP.out,by rw [E1.out];rfl,by simp only [List.length_cons,List.length_nil] at kp;omega⟩
 have HR:Hid (IsBig we (.agg #[.bool false,.slice ma lm.length mc]) (x % n2) 42):=Lib.hid ⟨false,_,lm,_,rfl,HIM.out,HNM.out,by rw [E2.out];rfl,by omega⟩
 clear hR HIP HNP HIM HNM kp km
 go_wp2_with fail
 refine (result_ok _ _ (HG.out.below hb6) HQ.out (by omega)).mono ?_
 intro e w6 hr
 obtain ⟨rq,hrq,rfl,hB6⟩:=hr.1 HFQ.out
 have HRQ:=Lib.hid hrq
 have p4:=keep hB6 p2
 have hb7:=below_trans' hb6 hB6
 have HR':=Lib.hid (HR.out.below hB6)
 clear hr hrq hB6
 go_wp2_with fail
 refine (result_ok _ _ (HG.out.below hb7) HR'.out (by omega)).mono ?_
 intro e w7 hr
 obtain ⟨rr,hrr,rfl,hB7⟩:=hr.1 HFR.out
 have HRR:=Lib.hid hrr
 have hb8:=below_trans' hb7 hB7
 clear hr hrr
 go_wp2_with fail
 go_ret3
 exact ⟨rq,rr,HRQ.out,HRR.out,rfl,hb8⟩
end Go.Proofs.YthihcjgmlbnapaaGreatDoor
namespace Go.Proofs.YthihcjgmlbnapaaGreatDoor
open Go.RowKit Go.Shelf
attribute [local go_sem] Oper.semAt_some
def thou:ByteArray:=⟨#[49,47,49,48,48,48]⟩
theorem thou_text:thou.data.toList=ratText (1 / 1000):=by decide +kernel
theorem thou_num:thou=numS (1 / 1000):=numS_of thou_text
theorem thou_sz:Sz 4 (1 / 1000):=by unfold Sz;decide +kernel
theorem thou_parts:((1 / 1000:Rat)).num=1∧((1 / 1000:Rat)).den=1000:=by decide +kernel
theorem rSignT_ok (w:World):Calls Tryz.prog 244 #[.string thou] w (RetB (.int .i64 1) w):=by
 have H:=Lib.hid (fun W=>rootNeg_ok (q:=1 / 1000) thou W thou_text)
 rw [show decide (((1 / 1000:Rat)).num < 0)=false by decide +kernel] at H
 have h48:(thou.toList == [48])=false:=by rw [Lib.toList_data];decide +kernel
 generalize thou=t at *
 go_enter Tryz.func244,Tryz.ntmps244
 go_wp2_with fail
 refine (H.out _).mono ?_
 rintro e w1 ⟨rfl,rfl⟩
 go_wp2_with fail
 go_ret
 exact ⟨rfl,qbl⟩
theorem unitErrT_ok (q:Rat) (w:World) (hG:Glo w) (hq:Sz 90 q) (h0:0≤q.num) :
  Calls Tryz.prog 231 #[.string (numS q),.string thou] w (RetB (.int .i64 0) w):=by
 have HCK:=Lib.hid (fun (W:World) (u v:Value) (hG:Glo W) hu hv=>rootCheck_ok [q,1 / 1000] [q] u v W hG hu hv (fun j h=>by
   have:j=0∨j=1:=by simp at h;omega
   rcases this with rfl|rfl
   ·exact hq
   ·exact thou_sz.mono (by decide)) (fun j h=>by
   obtain rfl:j=0:=by simpa using h
   exact h0) (by simp) (by simp))
 have HS:=Lib.hid rSignT_ok
 have HG:=Lib.hid hG
 have I2:=Lib.hid (fun (W:World) (ty:TypeId)=>isStrs_lit2 W q (1 / 1000) ty)
 have I1:=Lib.hid (fun (W:World) (ty:TypeId)=>isStrs_lit1 W q ty)
 rw [← thou_num] at I2
 generalize thou=t at *
 generalize hsq:numS q=s at *
 have HSQ:=Lib.hid hsq
 clear hG hq h0 hsq
 go_enter Tryz.func231,Tryz.ntmps231
 go_wp2_with fail
 have J1:IsStrs ((w.alloc (.cells #[.string s,.string t] 36)).alloc (.cells #[.string s] 36)) (.slice (some ⟨w.heap.size,0,none⟩) 2 2) ([q,1 / 1000].map numS):=(I2.out w _).below (bw4 (bw0 _ _) _)
 have J2:IsStrs ((w.alloc (.cells #[.string s,.string t] 36)).alloc (.cells #[.string s] 36)) (.slice (some ⟨w.heap.size+1,0,none⟩) 1 1) ([q].map numS):=by
  have h:=I1.out (w.alloc (.cells #[.string s,.string t] 36)) 36
  rw [World.size_alloc] at h;exact h
 refine (HCK.out _ _ _ (HG.out.below qbl) J1 J2).mono ?_
 rintro e w1 ⟨rfl,hB1⟩
 have hb1:Below w.heap.size w w1:=qbl
 clear hB1 HCK I2 I1 J1 J2
 go_wp2_with fail
 refine (HS.out _).mono ?_
 rintro e w2 ⟨rfl,hB2⟩
 have hb2:=below_trans' hb1 hB2
 clear hB2 hb1
 go_wp2_with fail
 go_ret
 exact ⟨rfl,hb2⟩
theorem unitsT_ok (q:Rat) (w:World) (hG:Glo w) (hq:Sz 90 q) (h0:0≤q.num) :
  Calls Tryz.prog 233 #[.string (numS q),.string thou,.string ⟨#[49]⟩] w (RetB (.string (decS (thQ q))) w):=by
 obtain ⟨N,hN⟩:∃ N,q.num.toNat=N:=⟨_,rfl⟩
 obtain ⟨D,hD⟩:∃ D,q.den=D:=⟨_,rfl⟩
 have hN1:N < 10 ^ 90:=by have:=hq.1;omega
 have hD1:D < 10 ^ 90:=by rw [← hD];exact hq.2
 have hD0:0 < D:=by rw [← hD];exact q.den_pos
 have F:∀ {x:Nat},x < 10 ^ 97→Fit (x:Int):=fun h=>fit_nat (Nat.lt_of_lt_of_le h (pow10_le (a:=97) (b:=300) (by decide)))
 have b1:N * 1000000 < 10 ^ 97:=by omega
 have e97:(10:Nat) ^ 90 < 10 ^ 97:=by decide
 have H1:=Lib.hid (fun W hG=>rootOfN_ok (k:=4) (q:=1 / 1000) W hG thou_sz (by decide) (by decide +kernel))
 rw [← thou_num,thou_parts.2,show ((1 / 1000:Rat)).num.toNat=1 by decide +kernel] at H1
 have H2:=Lib.hid (fun W hG=>rootOfN_ok (k:=90) (q:=q) W hG hq (by decide) h0)
 rw [hN,hD] at H2
 have H3:=Lib.hid (fun W hG=>pTimes_ok 1 1000 1 1000 W hG (F (by decide)) (F (by decide)) (F (by decide)) (F (by decide)) (F (by decide)) (F (by decide)))
 have H4:=Lib.hid (fun W hG=>pOver_ok N D (1 * 1) (1000 * 1000) W hG (F (by omega)) (F (by omega)) (F (by decide)) (F (by decide)) (F (by omega)) (F (by omega)))
 have H5:=Lib.hid (fun W hG=>mulN_ok (N * (1000 * 1000)) 1 W hG (F (by omega)) (F (by decide)) (F (by omega)))
 rw [show decS 1=⟨#[49]⟩ by decide +kernel] at H5
 have H6:=Lib.hid (fun W hG=>pFloor_ok (N * (1000 * 1000) * 1) (D * (1 * 1)) W hG (F (by omega)) (F (by omega)) (by omega))
 have hQ:N * (1000 * 1000) * 1 / (D * (1 * 1)) < 10 ^ 97:=Nat.lt_of_le_of_lt (Nat.div_le_self _ _) (by omega)
 have H7:=Lib.hid (fun W hG=>Root_ok (N * (1000 * 1000) * 1 / (D * (1 * 1))) _ W hG (decS_list _) (by
  have h1:(decS (N * (1000 * 1000) * 1 / (D * (1 * 1)))).size=(decS (N * (1000 * 1000) * 1 / (D * (1 * 1)))).data.toList.length:=rfl
  rw [h1,decS_list]
  exact len_of_lt (Nat.lt_of_lt_of_le hQ (pow10_le (a:=97) (b:=300) (by decide))) (by decide)))
 have HT:Hid (∀ r:ByteArray,r.data.toList=Lib.itoa ((rootN (N * (1000 * 1000) * 1 / (D * (1 * 1))):Nat):Int)→r=decS (thQ q)):=Lib.hid (fun r hr=>by
  rw [itoa_natCast] at hr
  unfold thQ
  rw [hN,hD]
  have e:N * (1000 * 1000) * 1 / (D * (1 * 1))=N * 1000000 / D:=by show N * 1000000 * 1 / (D * 1)=_;rw [Nat.mul_one,Nat.mul_one]
  rw [e] at hr
  exact decS_of hr)
 generalize rootN (N * (1000 * 1000) * 1 / (D * (1 * 1)))=rtN at *
 generalize decS (thQ q)=res at *
 generalize decS (N * (1000 * 1000) * 1 / (D * (1 * 1)))=sQ at *
 generalize decS (N * (1000 * 1000) * 1)=sA at *
 generalize decS (D * (1 * 1))=sB at *
 generalize decS (N * (1000 * 1000))=sC at *
 generalize decS (1 * 1)=sD at *
 generalize decS (1000 * 1000)=sE at *
 generalize decS 1000=sF at *
 generalize decS N=sN at *
 generalize decS D=sDD at *
 generalize thou=t at *
 generalize numS q=sq at *
 have HG:=Lib.hid hG
 clear hG hq h0 hN hD hN1 hD1 hD0 F b1 e97 hQ
 go_enter Tryz.func233,Tryz.ntmps233
 go_wp2_with fail
 refine (H1.out _ (HG.out.below qbl)).mono ?_
 rintro e w1 ⟨rfl,hB1⟩
 have hb1:Below w.heap.size w w1:=qbl
 clear hB1 H1
 go_wp2_with fail
 have hb2:Below w.heap.size w (w1.alloc (.cells #[.string sD,.string sF] 176)):=bw4 hb1 _
 have hz2:=hb2.size
 have x0:BoxT2 176 (w1.alloc (.cells #[.string sD,.string sF] 176)) w1.heap.size (.string sD) (.string sF):=BoxT2.new rfl
 generalize (w1.alloc (.cells #[.string sD,.string sF] 176))=W7 at *
 generalize w1.heap.size=bN at *
 have hR:Below W7.heap.size W7 W7.drew:=(bw0 _ _).drew
 refine region_S (F:=[7]) (R:=(fun w'=>Below W7.heap.size W7 w')) 8 #[false,false,false,false,false,false,false,false] (by kernel_rfl) (by kernel_rfl) (by kernel_rfl) (fun _ _ _ _ _ h=>h) (fun Q' hQ' hN=>?_)
 generalize W7.drew=wd at *
 refine tkS 13 (i:=0) (v:=?_) (fw:=5) hQ' hR rfl ?_ ?_;rotate_left;(focus (intro wq hRq;have c0:=(x0.below hRq).c0;have c1:=(x0.below hRq).c1;go_simp;(try with_reducible rfl)));(try simp only [Act.put,bw7,bw8,bw9])
 refine tkS 15 (i:=2) (v:=?_) (fw:=5) hQ' hR rfl ?_ ?_;rotate_left;(focus (intro wq hRq;have c0:=(x0.below hRq).c0;have c1:=(x0.below hRq).c1;go_simp;(try with_reducible rfl)));(try simp only [Act.put,bw7,bw8,bw9])
 refine tkS 16 (i:=3) (v:=?_) (fw:=5) hQ' hR rfl ?_ ?_;rotate_left;(focus (intro wq hRq;have c0:=(x0.below hRq).c0;have c1:=(x0.below hRq).c1;go_simp;(try with_reducible rfl)));(try simp only [Act.put,bw7,bw8,bw9])
 refine wpAnyS_ready (rs:=[1,6]) (by kernel_rfl) (by simp) ?_
 refine stepR (i:=1) rfl (by kernel_rfl) (fun K hK=>?_) (stepR (i:=6) rfl (by kernel_rfl) (fun K hK=>?_) (AllReadyS.nil))
 ·go_simp
  refine (H2.out _ (HG.out.below (below_trans' hb2 hR))).mono ?_
  rintro e wk1 ⟨rfl,hB'⟩
  replace hR:=below_trans' hR hB'
  clear hB'
  refine hK.out _ _ hR ?_
  clear hK K
  (try simp only [Act.put,bw7,bw8,bw9])
  refine wpAnyS_ready (rs:=[4,6]) (by kernel_rfl) (by simp) ?_
  refine stepR (i:=4) rfl (by kernel_rfl) (fun K hK=>?_) (stepR (i:=6) rfl (by kernel_rfl) (fun K hK=>?_) (AllReadyS.nil))
  ·go_simp
   refine (H3.out _ (HG.out.below (below_trans' hb2 hR))).mono ?_
   rintro e wk2 ⟨rfl,hB'⟩
   replace hR:=below_trans' hR hB'
   clear hB'
   refine hK.out _ _ hR ?_
   clear hK K
   (try simp only [Act.put,bw7,bw8,bw9])
   refine wpAnyS_ready (rs:=[5,6]) (by kernel_rfl) (by simp) ?_
   refine stepR (i:=5) rfl (by kernel_rfl) (fun K hK=>?_) (stepR (i:=6) rfl (by kernel_rfl) (fun K hK=>?_) (AllReadyS.nil))
   ·go_simp
    refine (H4.out _ (HG.out.below (below_trans' hb2 hR))).mono ?_
    rintro e wk3 ⟨rfl,hB'⟩
    replace hR:=below_trans' hR hB'
    clear hB'
    refine hK.out _ _ hR ?_
    clear hK K
    (try simp only [Act.put,bw7,bw8,bw9])
    refine wpAnyS_ready (rs:=[6]) (by kernel_rfl) (by simp) ?_
    refine stepR (i:=6) rfl (by kernel_rfl) (fun K hK=>?_) (AllReadyS.nil)
    go_simp
    refine after_allocD (fun wk4 hB' hvb hzb=>?_)
    have y0:BoxT2 176 wk4 wk3.heap.size (.string ⟨#[]⟩) (.string ⟨#[]⟩):=hvb
    have hvl:W7.heap.size≤wk3.heap.size:=hR.size
    generalize wk3.heap.size=vb at *
    replace hR:=hR.trans (hB'.mono hvl)
    clear hB' hvb hzb
    refine hK.out _ _ hR ?_
    clear hK K
    (try simp only [Act.put,bw7,bw8,bw9])
    refine wpAnyS_ready (rs:=[7]) (by kernel_rfl) (by simp) ?_
    refine stepF (i:=7) rfl (by kernel_rfl) (by kernel_rfl) (fun K hK=>?_) (AllReadyS.nil)
    refine wp_storeT2 _ _ _ rfl y0 Tryz.infoPair rfl rfl rfl rfl (fun wx hS hx2=>?_)
    have hbz:Below w.heap.size w wx:=hS.below (below_trans' hb2 hR) (by omega)
    clear hS y0
    refine hK.out _ _ ?_
    clear hK K
    (try simp only [Act.put,bw7,bw8,bw9])
    refine wpAnyS_done (by kernel_rfl) ?_ _
    refine hN.out _ _ ?_
    clear hR x0 H2 H3 H4
    have g0:=hx2.c0
    go_wp2_with fail
    refine (H5.out _ (HG.out.below hbz)).mono ?_
    rintro e wy ⟨rfl,hBk⟩
    have hbk:=below_trans' hbz hBk
    have y1:=hx2.below hBk
    have g0:=y1.c0
    have g1:=y1.c1
    have f0:=y1.frz 0
    clear hBk hbz hx2
    go_wp2_with fail
    have y2:=y1.set0 (.string sA)
    have hbm:Below w.heap.size w (wy.setCell ⟨vb,0,none⟩ (.string sA)):=hbk.setCell (by show w.heap.size≤vb;omega) _
    generalize wy.setCell ⟨vb,0,none⟩ (.string sA)=wz at *
    clear y1 g0 g1 f0 hbk
    refine (H6.out _ (HG.out.below hbm)).mono ?_
    rintro e wu ⟨rfl,hB8⟩
    have hb8:=below_trans' hbm hB8
    clear hB8 hbm y2
    go_wp2_with fail
    refine (H7.out _ (HG.out.below hb8)).mono ?_
    rintro e wv ⟨r,hr,rfl,hB9⟩
    obtain rfl:=HT.out r hr
    have hb9:=below_trans' hb8 hB9
    clear hB9 hb8 hr
    go_wp2_with fail
    go_ret
    exact ⟨rfl,hb9⟩
   ·go_simp
    refine after_allocD (fun wk3 hB' hvb hzb=>?_)
    have y0:BoxT2 176 wk3 wk2.heap.size (.string ⟨#[]⟩) (.string ⟨#[]⟩):=hvb
    have hvl:W7.heap.size≤wk2.heap.size:=hR.size
    generalize wk2.heap.size=vb at *
    replace hR:=hR.trans (hB'.mono hvl)
    clear hB' hvb hzb
    refine hK.out _ _ hR ?_
    clear hK K
    (try simp only [Act.put,bw7,bw8,bw9])
    refine wpAnyS_ready (rs:=[5]) (by kernel_rfl) (by simp) ?_
    refine stepR (i:=5) rfl (by kernel_rfl) (fun K hK=>?_) (AllReadyS.nil)
    go_simp
    refine (H4.out _ (HG.out.below (below_trans' hb2 hR))).mono ?_
    rintro e wk4 ⟨rfl,hB'⟩
    replace hR:=below_trans' hR hB'
    replace y0:=y0.below hB'
    clear hB'
    refine hK.out _ _ hR ?_
    clear hK K
    (try simp only [Act.put,bw7,bw8,bw9])
    refine wpAnyS_ready (rs:=[7]) (by kernel_rfl) (by simp) ?_
    refine stepF (i:=7) rfl (by kernel_rfl) (by kernel_rfl) (fun K hK=>?_) (AllReadyS.nil)
    refine wp_storeT2 _ _ _ rfl y0 Tryz.infoPair rfl rfl rfl rfl (fun wx hS hx2=>?_)
    have hbz:Below w.heap.size w wx:=hS.below (below_trans' hb2 hR) (by omega)
    clear hS y0
    refine hK.out _ _ ?_
    clear hK K
    (try simp only [Act.put,bw7,bw8,bw9])
    refine wpAnyS_done (by kernel_rfl) ?_ _
    refine hN.out _ _ ?_
    clear hR x0 H2 H3 H4
    have g0:=hx2.c0
    go_wp2_with fail
    refine (H5.out _ (HG.out.below hbz)).mono ?_
    rintro e wy ⟨rfl,hBk⟩
    have hbk:=below_trans' hbz hBk
    have y1:=hx2.below hBk
    have g0:=y1.c0
    have g1:=y1.c1
    have f0:=y1.frz 0
    clear hBk hbz hx2
    go_wp2_with fail
    have y2:=y1.set0 (.string sA)
    have hbm:Below w.heap.size w (wy.setCell ⟨vb,0,none⟩ (.string sA)):=hbk.setCell (by show w.heap.size≤vb;omega) _
    generalize wy.setCell ⟨vb,0,none⟩ (.string sA)=wz at *
    clear y1 g0 g1 f0 hbk
    refine (H6.out _ (HG.out.below hbm)).mono ?_
    rintro e wu ⟨rfl,hB8⟩
    have hb8:=below_trans' hbm hB8
    clear hB8 hbm y2
    go_wp2_with fail
    refine (H7.out _ (HG.out.below hb8)).mono ?_
    rintro e wv ⟨r,hr,rfl,hB9⟩
    obtain rfl:=HT.out r hr
    have hb9:=below_trans' hb8 hB9
    clear hB9 hb8 hr
    go_wp2_with fail
    go_ret
    exact ⟨rfl,hb9⟩
  ·go_simp
   refine after_allocD (fun wk2 hB' hvb hzb=>?_)
   have y0:BoxT2 176 wk2 wk1.heap.size (.string ⟨#[]⟩) (.string ⟨#[]⟩):=hvb
   have hvl:W7.heap.size≤wk1.heap.size:=hR.size
   generalize wk1.heap.size=vb at *
   replace hR:=hR.trans (hB'.mono hvl)
   clear hB' hvb hzb
   refine hK.out _ _ hR ?_
   clear hK K
   (try simp only [Act.put,bw7,bw8,bw9])
   refine wpAnyS_ready (rs:=[4]) (by kernel_rfl) (by simp) ?_
   refine stepR (i:=4) rfl (by kernel_rfl) (fun K hK=>?_) (AllReadyS.nil)
   go_simp
   refine (H3.out _ (HG.out.below (below_trans' hb2 hR))).mono ?_
   rintro e wk3 ⟨rfl,hB'⟩
   replace hR:=below_trans' hR hB'
   replace y0:=y0.below hB'
   clear hB'
   refine hK.out _ _ hR ?_
   clear hK K
   (try simp only [Act.put,bw7,bw8,bw9])
   refine wpAnyS_ready (rs:=[5]) (by kernel_rfl) (by simp) ?_
   refine stepR (i:=5) rfl (by kernel_rfl) (fun K hK=>?_) (AllReadyS.nil)
   go_simp
   refine (H4.out _ (HG.out.below (below_trans' hb2 hR))).mono ?_
   rintro e wk4 ⟨rfl,hB'⟩
   replace hR:=below_trans' hR hB'
   replace y0:=y0.below hB'
   clear hB'
   refine hK.out _ _ hR ?_
   clear hK K
   (try simp only [Act.put,bw7,bw8,bw9])
   refine wpAnyS_ready (rs:=[7]) (by kernel_rfl) (by simp) ?_
   refine stepF (i:=7) rfl (by kernel_rfl) (by kernel_rfl) (fun K hK=>?_) (AllReadyS.nil)
   refine wp_storeT2 _ _ _ rfl y0 Tryz.infoPair rfl rfl rfl rfl (fun wx hS hx2=>?_)
   have hbz:Below w.heap.size w wx:=hS.below (below_trans' hb2 hR) (by omega)
   clear hS y0
   refine hK.out _ _ ?_
   clear hK K
   (try simp only [Act.put,bw7,bw8,bw9])
   refine wpAnyS_done (by kernel_rfl) ?_ _
   refine hN.out _ _ ?_
   clear hR x0 H2 H3 H4
   have g0:=hx2.c0
   go_wp2_with fail
   refine (H5.out _ (HG.out.below hbz)).mono ?_
   rintro e wy ⟨rfl,hBk⟩
   have hbk:=below_trans' hbz hBk
   have y1:=hx2.below hBk
   have g0:=y1.c0
   have g1:=y1.c1
   have f0:=y1.frz 0
   clear hBk hbz hx2
   go_wp2_with fail
   have y2:=y1.set0 (.string sA)
   have hbm:Below w.heap.size w (wy.setCell ⟨vb,0,none⟩ (.string sA)):=hbk.setCell (by show w.heap.size≤vb;omega) _
   generalize wy.setCell ⟨vb,0,none⟩ (.string sA)=wz at *
   clear y1 g0 g1 f0 hbk
   refine (H6.out _ (HG.out.below hbm)).mono ?_
   rintro e wu ⟨rfl,hB8⟩
   have hb8:=below_trans' hbm hB8
   clear hB8 hbm y2
   go_wp2_with fail
   refine (H7.out _ (HG.out.below hb8)).mono ?_
   rintro e wv ⟨r,hr,rfl,hB9⟩
   obtain rfl:=HT.out r hr
   have hb9:=below_trans' hb8 hB9
   clear hB9 hb8 hr
   go_wp2_with fail
   go_ret
   exact ⟨rfl,hb9⟩
 ·go_simp
  refine after_allocD (fun wk1 hB' hvb hzb=>?_)
  have y0:BoxT2 176 wk1 wd.heap.size (.string ⟨#[]⟩) (.string ⟨#[]⟩):=hvb
  have hvl:W7.heap.size≤wd.heap.size:=hR.size
  generalize wd.heap.size=vb at *
  replace hR:=hR.trans (hB'.mono hvl)
  clear hB' hvb hzb
  refine hK.out _ _ hR ?_
  clear hK K
  (try simp only [Act.put,bw7,bw8,bw9])
  refine wpAnyS_ready (rs:=[1]) (by kernel_rfl) (by simp) ?_
  refine stepR (i:=1) rfl (by kernel_rfl) (fun K hK=>?_) (AllReadyS.nil)
  go_simp
  refine (H2.out _ (HG.out.below (below_trans' hb2 hR))).mono ?_
  rintro e wk2 ⟨rfl,hB'⟩
  replace hR:=below_trans' hR hB'
  replace y0:=y0.below hB'
  clear hB'
  refine hK.out _ _ hR ?_
  clear hK K
  (try simp only [Act.put,bw7,bw8,bw9])
  refine wpAnyS_ready (rs:=[4]) (by kernel_rfl) (by simp) ?_
  refine stepR (i:=4) rfl (by kernel_rfl) (fun K hK=>?_) (AllReadyS.nil)
  go_simp
  refine (H3.out _ (HG.out.below (below_trans' hb2 hR))).mono ?_
  rintro e wk3 ⟨rfl,hB'⟩
  replace hR:=below_trans' hR hB'
  replace y0:=y0.below hB'
  clear hB'
  refine hK.out _ _ hR ?_
  clear hK K
  (try simp only [Act.put,bw7,bw8,bw9])
  refine wpAnyS_ready (rs:=[5]) (by kernel_rfl) (by simp) ?_
  refine stepR (i:=5) rfl (by kernel_rfl) (fun K hK=>?_) (AllReadyS.nil)
  go_simp
  refine (H4.out _ (HG.out.below (below_trans' hb2 hR))).mono ?_
  rintro e wk4 ⟨rfl,hB'⟩
  replace hR:=below_trans' hR hB'
  replace y0:=y0.below hB'
  clear hB'
  refine hK.out _ _ hR ?_
  clear hK K
  (try simp only [Act.put,bw7,bw8,bw9])
  refine wpAnyS_ready (rs:=[7]) (by kernel_rfl) (by simp) ?_
  refine stepF (i:=7) rfl (by kernel_rfl) (by kernel_rfl) (fun K hK=>?_) (AllReadyS.nil)
  refine wp_storeT2 _ _ _ rfl y0 Tryz.infoPair rfl rfl rfl rfl (fun wx hS hx2=>?_)
  have hbz:Below w.heap.size w wx:=hS.below (below_trans' hb2 hR) (by omega)
  clear hS y0
  refine hK.out _ _ ?_
  clear hK K
  (try simp only [Act.put,bw7,bw8,bw9])
  refine wpAnyS_done (by kernel_rfl) ?_ _
  refine hN.out _ _ ?_
  clear hR x0 H2 H3 H4
  have g0:=hx2.c0
  go_wp2_with fail
  refine (H5.out _ (HG.out.below hbz)).mono ?_
  rintro e wy ⟨rfl,hBk⟩
  have hbk:=below_trans' hbz hBk
  have y1:=hx2.below hBk
  have g0:=y1.c0
  have g1:=y1.c1
  have f0:=y1.frz 0
  clear hBk hbz hx2
  go_wp2_with fail
  have y2:=y1.set0 (.string sA)
  have hbm:Below w.heap.size w (wy.setCell ⟨vb,0,none⟩ (.string sA)):=hbk.setCell (by show w.heap.size≤vb;omega) _
  generalize wy.setCell ⟨vb,0,none⟩ (.string sA)=wz at *
  clear y1 g0 g1 f0 hbk
  refine (H6.out _ (HG.out.below hbm)).mono ?_
  rintro e wu ⟨rfl,hB8⟩
  have hb8:=below_trans' hbm hB8
  clear hB8 hbm y2
  go_wp2_with fail
  refine (H7.out _ (HG.out.below hb8)).mono ?_
  rintro e wv ⟨r,hr,rfl,hB9⟩
  obtain rfl:=HT.out r hr
  have hb9:=below_trans' hb8 hB9
  clear hB9 hb8 hr
  go_wp2_with fail
  go_ret
  exact ⟨rfl,hb9⟩
theorem rootFloorT_ok (q:Rat) (w:World) (hG:Glo w) (hq:Sz 90 q) (h0:0≤q.num) :
  Calls Tryz.prog 214 #[.string (numS q),.string thou] w (RetB (.tuple #[.string (numS (((thQ q:Nat):Rat) / 1000)),.int .i64 0]) w):=by
 have hl:thQ q < 10 ^ 50:=by
  unfold thQ
  refine rootN_lt' (k:=50) ?_
  refine Nat.lt_of_le_of_lt (Nat.div_le_self _ _) ?_
  have h1:q.num.toNat≤q.num.natAbs:=by omega
  have h2:q.num.toNat < 10 ^ 90:=Nat.lt_of_le_of_lt h1 hq.1
  have h3:q.num.toNat * 1000000 < 10 ^ 90 * 1000000:=Nat.mul_lt_mul_of_pos_right h2 (by decide)
  exact Nat.lt_of_lt_of_le h3 (by decide)
 have e:((thQ q:Nat):Rat) * (1 / 1000)=((thQ q:Nat):Rat) / 1000:=by grind
 have H1:=Lib.hid (fun W hG=>unitErrT_ok q W hG hq h0)
 have H2:=Lib.hid (fun W hG=>unitsT_ok q W hG hq h0)
 have H3:=Lib.hid (fun W hG=>RMul_ok (decS (thQ q)) thou W hG (by rw [decS_list,← text_natR]) (sz_natR hl (by decide)) thou_text thou_sz (by decide))
 have HE:Hid (∀ r:ByteArray,r.data.toList=ratText (((thQ q:Nat):Int) * (1 / 1000))→r=numS (((thQ q:Nat):Rat) / 1000)):=Lib.hid (fun r hr=>numS_of (by rw [← e];exact hr))
 have HG:=Lib.hid hG
 generalize numS (((thQ q:Nat):Rat) / 1000)=res at *
 generalize decS (thQ q)=sd at *
 generalize numS q=sq at *
 generalize thou=t at *
 have HMU:∀ W,Glo W→Calls Tryz.prog 232 #[.string sd,.string t] W (RetB (.string res) W):=by
  intro W hG
  have H:=Lib.hid (H3.out W hG)
  clear H1 H2 H3 HG
  go_enter Tryz.func232,Tryz.ntmps232
  go_wp2_with fail
  refine H.out.mono ?_
  rintro e w1 ⟨r,hr,rfl,hB1⟩
  obtain rfl:=HE.out r hr
  clear hr
  go_wp2_with fail
  go_ret
  exact ⟨rfl,hB1⟩
 have HM:=Lib.hid HMU
 clear hG hq h0 hl e H3 HE HMU
 go_enter Tryz.func214,Tryz.ntmps214
 go_wp2_with fail
 refine (H1.out _ HG.out).mono ?_
 rintro e w1 ⟨rfl,hB1⟩
 go_wp2_with fail
 refine (H2.out _ (HG.out.below hB1)).mono ?_
 rintro e w2 ⟨rfl,hB2⟩
 have hb2:=below_trans' hB1 hB2
 clear hB1 hB2
 go_wp2_with fail
 refine (HM.out _ (HG.out.below hb2)).mono ?_
 rintro e w3 ⟨rfl,hB3⟩
 have hb3:=below_trans' hb2 hB3
 clear hB3 hb2
 go_wp2_with fail
 go_ret2
 exact ⟨rfl,hb3⟩
end Go.Proofs.YthihcjgmlbnapaaGreatDoor
namespace Go.Proofs.YthihcjgmlbnapaaGreatDoor
open Go.RowKit
theorem Int_q (n:Int) (s:ByteArray) (w:World) (hG:Glo w) (hs:s.data.toList=ratText n) (hn:n.natAbs≤1152921504606846976) :
  Calls Tryz.prog 39 #[.string s] w (RetB (.tuple #[.int .i64 n,.int .i64 0]) w):=by
 have hsz:Sz 20 ((n:Int):Rat):=⟨by show n.natAbs < _;omega,by show 1 < _;omega⟩
 have RS:=Lib.hid (fun W hG=>read_any s W hG hs hsz (by omega))
 have HG:=Lib.hid hG
 clear hs hG hsz
 go_enter Tryz.func39,Tryz.ntmps39
 go_wp2_with fail
 refine (RS.out _ HG.out).mono ?_
 rintro e w1 ⟨a,b,ha,hb,rfl,hB1⟩
 have hb1:=eq_of_list (s:=b) (m:=[49]) (by rw [hb.out];exact one_digits)
 have hat:Hid (Lib.atoiAll a.data.toList=.ok n):=Lib.hid (by rw [ha.out,Rat.num_intCast];exact atoi_itoa (by omega) (by omega))
 have hal:Hid (a.size≤1000):=Lib.hid (by
  have h1:=itoa_len_le (n:=n) (k:=20) (by omega) (by omega)
  have h2:a.size=a.data.toList.length:=rfl
  rw [h2,ha.out]
  exact Nat.le_trans h1 (by omega))
 go_wp2_with fail
 refine (atoi_any a _ hal.out hat.out).mono ?_
 rintro e w2 ⟨rfl,hB2⟩
 go_wp2_with fail
 go_ret2
 exact ⟨rfl,qbl⟩
end Go.Proofs.YthihcjgmlbnapaaGreatDoor
namespace Go.Proofs.YthihcjgmlbnapaaGreatDoor
open Go.RowKit
theorem IDivideZ_ok (x y:Int) (s t:ByteArray) (w:World) (hG:Glo w) (hs:s.data.toList=Lib.itoa x) (hx:Fit x) (ht:t.data.toList=Lib.itoa y) (hy:Fit y) (hy0:0 < y) :
  Calls Tryz.prog 81 #[.string s,.string t] w (RetQR (x / y) (x % y) w):=by
 by_cases h:x % y=0∨0≤x
 ·exact IDivide_ok x y s t w hG hs hx ht hy hy0 h
 ·by_cases hb:s.size≤18∧t.size≤18
  ·exact Divide_small x y s t w hG hs hb.1 ht hb.2 hy0
  ·exact IDivideN_ok x y s t w hG hs hx ht hy hy0 hb (fun h2=>h (.inl h2)) (Int.not_le.1 fun h2=>h (.inr h2))
theorem Floor_z {k:Nat} {q:Rat} (s:ByteArray) (w:World) (hG:Glo w) (hs:s.data.toList=ratText q) (hq:Sz k q) (hk:k≤300) :
  Calls Tryz.prog 38 #[.string s] w (RetN (q.floor:Int) w):=by
 by_cases hsm:Small q
 ·exact Floor_small s w hG hs hsm
 ·have hsz:=txt_size hs hq hk
  have hno:natOf s.data.toList=none:=by rw [hs];exact natOf_big hsm
  have RS:=Lib.hid (fun W hG=>read_any s W hG hs hq hk)
  have DV:=Lib.hid (fun (a b:ByteArray) W hG h1 h2=>IDivideZ_ok q.num (q.den:Int) a b W hG h1 (hq.fn hk) h2 (hq.fd hk) (by have:=q.den_pos;omega))
  have HF:Hid (ratText (q.floor:Int)=Lib.itoa (q.num / (q.den:Int))):=Lib.hid (by rw [ratText_int,Rat.floor_def])
  have HN:=Lib.hid hno
  have HG:=Lib.hid hG
  clear hs hG hq hno hsm
  go_enter Tryz.func38,Tryz.ntmps38
  go_wp2_with fail
  refine (nativeOf_none s _ (by omega) HN.out).mono ?_
  rintro e w1 ⟨rfl,hB1⟩
  have hb1:Below w.heap.size w w1:=qbl
  clear hB1
  go_wp2_with fail
  refine (RS.out _ (HG.out.below qbl)).mono ?_
  rintro e w2 ⟨a,b,ha,hb,rfl,hB2⟩
  have hb2:Below w.heap.size w w2:=qbl
  clear hB2
  go_wp2_with fail
  refine (DV.out a b _ (HG.out.below qbl) ha.out (by rw [hb.out,itoa_natCast])).mono ?_
  rintro e w3 ⟨x,y,hx,hy,rfl,hB3⟩
  have HX:=Lib.hid hx
  clear hx hy
  go_wp2_with fail
  go_ret2
  exact ⟨x,HX.out.trans HF.out.symm,rfl,qbl⟩
end Go.Proofs.YthihcjgmlbnapaaGreatDoor
namespace Go.Proofs.YthihcjgmlbnapaaGreatDoor
open Go.RowKit Go.Shelf
theorem RetN.bb {q:Rat} {w:World} {e:Ending} {w':World} (h:RetN q w e w'):RetB (.tuple #[.string (numS q),.int .i64 0]) w e w':=by
 obtain ⟨r,hr,he,hB⟩:=h
 obtain rfl:=numS_of hr
 exact ⟨he,hB⟩
theorem rat_byte {q:Rat} {s:ByteArray} (hs:s.data.toList=ratText q):∃ h0:0 < s.size,((s[0].toNat:Int) == 45)=decide (q.num < 0):=by
 have h0:0 < s.size:=by
  have h1:s.size=s.data.toList.length:=rfl
  rw [h1,hs];exact List.length_pos_iff.2 (ratText_ne_nil q)
 refine ⟨h0,?_⟩
 by_cases h:q.num < 0
 ·rw [decide_eq_true h]
  exact headq45' h0 (by rw [hs,ratText_parts,if_pos h];rfl)
 ·rw [decide_eq_false h]
  refine Bool.eq_false_iff.2 fun h'=>?_
  have h2:=headq45 h0 h'
  rw [hs,ratText_parts,if_neg h] at h2
  exact decDigits_no45 q.num.natAbs _ h2
theorem one_text:(⟨#[49]⟩:ByteArray).data.toList=ratText 1:=by decide +kernel
theorem one_sz:Sz 1 (1:Rat):=by unfold Sz;decide +kernel
theorem zero_text':(⟨#[48]⟩:ByteArray).data.toList=ratText 0:=by decide +kernel
theorem zero_sz':Sz 1 (0:Rat):=by unfold Sz;decide +kernel
theorem term_ok (c:Rat) (m:Nat) (w:World) (hG:Glo w) (hc:Sz 20 c) (hm:m < 10 ^ 40) :
  Calls Tryz.prog 191 #[.agg #[.string (numS c),.string (decS m)],.string thou] w (RetB (.tuple #[.string (numS ((tmK (c,m):Rat) / 1000)),.int .i64 0]) w):=by
 obtain ⟨s1,s2⟩:=sq_sz hc hm
 have hn:=sq_nonneg (c:=c) (m:=m)
 have hth:=thQ_lt s2
 have H1:=Lib.hid (fun W hG=>(RMul_ok (numS c) (numS c) W hG (numS_list c) hc (numS_list c) hc (by decide)).mono fun e w' h=>h.bb)
 have H2:=Lib.hid (fun W hG=>(RMul_ok (numS (c * c)) (decS m) W hG (numS_list _) s1 (by rw [text_natR];exact decS_list m) (sz_natR hm (by decide)) (by decide)).mono fun e w' h=>h.bb)
 have H3:=Lib.hid (fun W hG=>rootFloorT_ok (c * c * ((m:Int):Rat)) W hG (s2.mono (by decide)) hn)
 have hk:Sz 44 (((thQ (c * c * ((m:Int):Rat)):Nat):Rat) / 1000):=sz_thou (k:=((thQ (c * c * ((m:Int):Rat)):Nat):Int)) (by omega) (by decide)
 have H4:=Lib.hid (fun W hG=>(RSub_ok ⟨#[48]⟩ (numS (((thQ (c * c * ((m:Int):Rat)):Nat):Rat) / 1000)) W hG zero_text' zero_sz' (numS_list _) hk (by decide)).mono fun e w' h=>h.bb)
 obtain ⟨h0,hby⟩:=rat_byte (numS_list c)
 have hT1:c.num < 0→0 - (((thQ (c * c * ((m:Int):Rat)):Nat):Rat) / 1000)=(tmK (c,m):Rat) / 1000:=fun h=>by
  unfold tmK
  rw [if_pos h]
  exact thou_neg _
 have hT2:¬ c.num < 0→(((thQ (c * c * ((m:Int):Rat)):Nat):Rat) / 1000)=(tmK (c,m):Rat) / 1000:=fun h=>by
  unfold tmK
  rw [if_neg h];rfl
 have HG:=Lib.hid hG
 generalize (tmK (c,m):Rat) / 1000=RES at *
 generalize (((thQ (c * c * ((m:Int):Rat)):Nat):Rat) / 1000)=TH at *
 generalize c * c * ((m:Int):Rat)=QQ at *
 generalize c * c=CC at *
 generalize hsc:numS c=sc at *
 generalize decS m=sm at *
 generalize thou=t at *
 by_cases hn0:c.num < 0
 ·rw [decide_eq_true hn0] at hby
  have HE:=Lib.hid (hT1 hn0)
  clear hT1 hT2 hn0 hk hth hn s1 s2 hG hc hm hsc
  go_enter Tryz.func191,Tryz.ntmps191
  go_wp2_with fail
  have hb0:Below w.heap.size w (w.alloc (.cells #[.string sc,.string sm] 49)):=qbl
  have x0:BoxT2 49 (w.alloc (.cells #[.string sc,.string sm] 49)) w.heap.size (.string sc) (.string sm):=BoxT2.new rfl
  generalize w.alloc (.cells #[.string sc,.string sm] 49)=W0 at *
  refine (H1.out _ (HG.out.below hb0)).mono ?_
  rintro e w1 ⟨rfl,hB1⟩
  have hb1:=below_trans' hb0 hB1
  replace x0:=x0.below hB1
  have e1:=x0.c1
  clear hB1 H1 hb0
  go_wp2_with fail
  refine (H2.out _ (HG.out.below hb1)).mono ?_
  rintro e w2 ⟨rfl,hB2⟩
  have hb2:=below_trans' hb1 hB2
  replace x0:=x0.below hB2
  have e0:=x0.c0
  clear hB2 H2 hb1 e1
  go_wp2_with fail
  refine (H3.out _ (HG.out.below hb2)).mono ?_
  rintro e w3 ⟨rfl,hB3⟩
  have hb3:=below_trans' hb2 hB3
  replace e0:=keep hB3 e0
  clear hB3 H3 hb2
  go_wp2_with fail
  refine (H4.out _ (HG.out.below hb3)).mono ?_
  rintro e w4 ⟨rfl,hB4⟩
  have hb4:=below_trans' hb3 hB4
  clear hB4 H4 hb3
  go_wp2_with fail
  have h:=HE.out
  subst h
  go_ret2
  exact ⟨rfl,hb4⟩
 ·rw [decide_eq_false hn0] at hby
  have HE:=Lib.hid (hT2 hn0)
  clear hT1 hT2 hn0 hk hth hn s1 s2 hG hc hm hsc H4
  go_enter Tryz.func191,Tryz.ntmps191
  go_wp2_with fail
  have hb0:Below w.heap.size w (w.alloc (.cells #[.string sc,.string sm] 49)):=qbl
  have x0:BoxT2 49 (w.alloc (.cells #[.string sc,.string sm] 49)) w.heap.size (.string sc) (.string sm):=BoxT2.new rfl
  generalize w.alloc (.cells #[.string sc,.string sm] 49)=W0 at *
  refine (H1.out _ (HG.out.below hb0)).mono ?_
  rintro e w1 ⟨rfl,hB1⟩
  have hb1:=below_trans' hb0 hB1
  replace x0:=x0.below hB1
  have e1:=x0.c1
  clear hB1 H1 hb0
  go_wp2_with fail
  refine (H2.out _ (HG.out.below hb1)).mono ?_
  rintro e w2 ⟨rfl,hB2⟩
  have hb2:=below_trans' hb1 hB2
  replace x0:=x0.below hB2
  have e0:=x0.c0
  clear hB2 H2 hb1 e1
  go_wp2_with fail
  refine (H3.out _ (HG.out.below hb2)).mono ?_
  rintro e w3 ⟨rfl,hB3⟩
  have hb3:=below_trans' hb2 hB3
  replace e0:=keep hB3 e0
  clear hB3 H3 hb2
  go_wp2_with fail
  have h:=HE.out
  subst h
  go_ret2
  exact ⟨rfl,hb3⟩
theorem sz_floor1 {k:Int} (hk:k.natAbs < 10 ^ 45):Sz 46 ((k / 1000:Int):Rat):=by
 have h1:(k / 1000).natAbs≤k.natAbs:=by omega
 have h2:(10:Nat) ^ 45 < 10 ^ 46:=by decide
 exact sz_int (by omega) (by decide)
theorem encFloor_ok (k:Int) (w:World) (hG:Glo w) (hk:k.natAbs < 10 ^ 45) :
  Calls Tryz.prog 192 #[.string (numS ((k:Rat) / 1000)),.string ⟨#[49]⟩] w (RetB (.tuple #[.string (numS ((k / 1000:Int):Rat)),.int .i64 0]) w):=by
 have hz:=sz_thou hk (by decide)
 have hz2:Sz 46 ((k / 1000:Int):Rat):=sz_floor1 hk
 have d1:∀ x:Rat,x / 1=x:=fun x=>by grind
 have m1:∀ x:Rat,x * 1=x:=fun x=>by grind
 have H1:=Lib.hid (fun W hG=>(RDiv_ok (numS ((k:Rat) / 1000)) ⟨#[49]⟩ W hG (numS_list _) hz one_text one_sz (by decide) (by decide)).mono fun e w' h=>h.bb)
 rw [d1] at H1
 have H2:=Lib.hid (fun W hG=>(Floor_z (numS ((k:Rat) / 1000)) W hG (numS_list _) hz (by decide)).mono fun e w' h=>h.bb)
 rw [floor_thou] at H2
 have H3:=Lib.hid (fun W hG=>(RMul_ok (a:=46) (numS ((k / 1000:Int):Rat)) ⟨#[49]⟩ W hG (numS_list _) hz2 one_text one_sz (by decide)).mono fun e w' h=>h.bb)
 rw [m1] at H3
 have HG:=Lib.hid hG
 generalize (k:Rat) / 1000=Q at *
 generalize ((k / 1000:Int):Rat)=R at *
 generalize numS Q=sq at *
 generalize numS R=sr at *
 clear hG hk hz hz2 d1 m1
 go_enter Tryz.func192,Tryz.ntmps192
 go_wp2_with fail
 refine (H1.out _ HG.out).mono ?_
 rintro e w1 ⟨rfl,hB1⟩
 go_wp2_with fail
 refine (H2.out _ (HG.out.below hB1)).mono ?_
 rintro e w2 ⟨rfl,hB2⟩
 have hb2:=below_trans' hB1 hB2
 clear hB1 hB2
 go_wp2_with fail
 refine (H3.out _ (HG.out.below hb2)).mono ?_
 rintro e w3 ⟨rfl,hB3⟩
 have hb3:=below_trans' hb2 hB3
 clear hB3 hb2
 go_wp2_with fail
 go_ret2
 exact ⟨rfl,hb3⟩
theorem near_ok (T:Terms) (v:Value) (w:World) (hG:Glo w) (hv:IsTerms w v (clsL T)) (h20:Short20 T) (hl:T.length≤12) :
  Calls Tryz.prog 148 #[v,.string ⟨#[49]⟩] w (RetB (.tuple #[.string (numS ((smK T / 1000 - 1:Int):Rat)),.int .i64 0]) w):=by
 have hfine:(1:Rat) * (1 / 1000)=1 / 1000:=by decide +kernel
 have H1:=Lib.hid (fun W hG=>(RMul_ok ⟨#[49]⟩ thou W hG one_text one_sz thou_text thou_sz (by decide)).mono fun e w' h=>h.bb)
 rw [hfine,← thou_num] at H1
 replace H1:Hid (∀ W,Glo W→Calls Tryz.prog 57 #[.string ⟨#[49]⟩,.string ⟨#[49,47,49,48,48,48]⟩] W (RetB (.tuple #[.string thou,.int .i64 0]) W)):=Lib.hid H1.out
 have H2:=Lib.hid (fun (x:Rat × Nat) (hx:x ∈ T) W hG=>term_ok x.1 x.2 W hG (h20 x hx).1 (h20 x hx).2)
 have hsum:∀ k,(smK (T.take k)).natAbs < 10 ^ 45:=fun k=>smK_lt (h20.take k) (by rw [List.length_take];omega)
 have H3:=Lib.hid (fun (k:Nat) (x:Rat × Nat) (hx:x ∈ T) W hG=>(RAdd_ok (numS ((smK (T.take k):Rat) / 1000)) (numS ((tmK x:Rat) / 1000)) W hG (numS_list _) (sz_thou (hsum k) (by decide)) (numS_list _) (sz_thou (n:=45) (Nat.lt_of_lt_of_le (tmK_lt (h20 x hx).1 (h20 x hx).2) (pow10_le (a:=43) (b:=45) (by decide))) (by decide)) (by decide)).mono fun e w' h=>h.bb)
 have hall:smK T=smK (T.take T.length):=by rw [List.take_length]
 have hT45:(smK T).natAbs < 10 ^ 45:=by rw [hall];exact hsum _
 have H4:=Lib.hid (fun W hG=>encFloor_ok (smK T) W hG hT45)
 have hz2:Sz 46 ((smK T / 1000:Int):Rat):=sz_floor1 hT45
 have H5:=Lib.hid (fun W hG=>(RSub_ok (a:=46) (numS ((smK T / 1000:Int):Rat)) ⟨#[49]⟩ W hG (numS_list _) hz2 one_text one_sz (by decide)).mono fun e w' h=>h.bb)
 rw [show ((smK T / 1000:Int):Rat) - 1=((smK T / 1000 - 1:Int):Rat) by rw [Rat.intCast_sub];rfl] at H5
 have HG:=Lib.hid hG
 have hlen:=clsL_length T
 obtain ⟨a,cap,rfl,hcap,hc⟩:=hv
 have HC:=Lib.hid hc
 rw [hlen] at hcap ⊢
 have HLN:=Lib.hid hlen
 have hz:(⟨#[48]⟩:ByteArray)=numS ((smK (T.take 0):Rat) / 1000):=numS_of (by rw [List.take_zero];decide +kernel)
 have HZ:=Lib.hid hz
 have HALL:=Lib.hid hall
 generalize hth:thou=t at *
 clear hG hc h20 hsum hfine hall hT45 hlen hz hz2 hth
 go_enter Tryz.func148,Tryz.ntmps148
 go_wp2_with fail
 refine (H1.out _ HG.out).mono ?_
 rintro e w1 ⟨rfl,hB1⟩
 clear H1
 go_wp2_with fail
 go_loopw [8,24] (fun s i wr=>∃ k:Nat,k≤T.length∧i=.int .i64 k∧s=.string (numS ((smK (T.take k):Rat) / 1000))∧Below w.heap.size w wr) (fun _ i _=>T.length - (intOf i).toNat)
 case atStart=>exact ⟨0,by omega,rfl,by rw [← HZ.out],hB1⟩
 case round =>
  obtain ⟨k,hk,rfl,rfl,hB⟩:=hrel
  by_cases hlt:k < T.length
  ·obtain ⟨b,off,rfl,hcell⟩:=HC.out (fun h=>by have:=HLN.out;rw [h] at this;simp at this;omega)
   have hkL:k < (clsL T).length:=by rw [HLN.out];exact hlt
   obtain ⟨d0,d1⟩:=(hcell k hkL).below (w':=wr) hB
   rw [clsL_get hlt] at d0 d1
   have hx:=tq_mem hlt
   have HT:=Lib.hid (H2.out _ hx)
   have HA:=Lib.hid (H3.out k _ hx)
   have hst:smK (T.take (k+1))=smK (T.take k)+tmK (tq T k):=by rw [termsTake hlt,smK_snoc]
   have HST:Hid (numS (((smK (T.take k):Rat) / 1000)+((tmK (tq T k):Rat) / 1000))=numS ((smK (T.take (k+1)):Rat) / 1000)):=Lib.hid (by rw [thou_add,hst])
   generalize hxx:tq T k=x at *
   obtain ⟨c,m⟩:=x
   have hltI:(k:Int) < (T.length:Int):=by omega
   have hk1:IntKind.i64.wrap ((k:Int)+1)=((k+1:Nat):Int):=IntWalk.i64_in _ (by omega)
   have hb1:Below w.heap.size w (wr.alloc (.cells #[.string (numS c),.string (decS m)] 49)):=bw4 hB _
   have y0:BoxT2 49 (wr.alloc (.cells #[.string (numS c),.string (decS m)] 49)) wr.heap.size (.string (numS c)) (.string (decS m)):=BoxT2.new rfl
   rw [HST.out] at HA
   generalize (tmK (c,m):Rat) / 1000=TQ at *
   generalize (smK (T.take k):Rat) / 1000=SQ at *
   obtain ⟨SQ1,hq1⟩:∃ q,(smK (T.take (k+1)):Rat) / 1000=q:=⟨_,rfl⟩
   rw [hq1] at HA
   have HQ1:=Lib.hid hq1
   generalize numS TQ=stq at *
   generalize numS SQ=ssq at *
   generalize hs1:numS SQ1=ssq1 at *
   dsimp only at d0 d1 HT
   generalize numS c=sc at *
   generalize decS m=sm at *
   have HS1:=Lib.hid hs1
   clear hcell hx hst HST hxx hs1 hkL hq1
   go_wp2_with fail
   generalize wr.alloc (.cells #[.string sc,.string sm] 49)=W1 at *
   refine (HT.out _ (HG.out.below hb1)).mono ?_
   rintro e w2 ⟨rfl,hB2⟩
   have hb2:=below_trans' hb1 hB2
   clear hB2 hb1 HT y0
   go_wp2_with fail
   refine (HA.out _ (HG.out.below hb2)).mono ?_
   rintro e w3 ⟨rfl,hB3⟩
   have hb3:=below_trans' hb2 hB3
   clear hB3 hb2 HA
   go_wp2_with fail
   go_roundw
   case rel=>exact ⟨k+1,by omega,by go_num,by rw [HQ1.out,HS1.out],hb3⟩
   case measure=>simp [intOf];omega
  ·have e:k=T.length:=by omega
   subst e
   rw [← HALL.out]
   generalize (smK T:Rat) / 1000=SQ at *
   generalize numS SQ=ssq at *
   generalize numS ((smK T / 1000:Int):Rat)=sfl at *
   generalize numS ((smK T / 1000 - 1:Int):Rat)=sres at *
   clear H2 H3 HALL HZ
   go_wp2_with fail
   refine (H4.out _ (HG.out.below hB)).mono ?_
   rintro e w2 ⟨rfl,hB2⟩
   have hb2:=below_trans' hB hB2
   clear hB2 H4
   go_wp2_with fail
   refine (H5.out _ (HG.out.below hb2)).mono ?_
   rintro e w3 ⟨rfl,hB3⟩
   have hb3:=below_trans' hb2 hB3
   clear hB3 H5
   go_wp2_with fail
   go_ret2
   exact ⟨rfl,hb3⟩
end Go.Proofs.YthihcjgmlbnapaaGreatDoor
namespace Go.Proofs.YthihcjgmlbnapaaGreatDoor
open Go.RowKit Go.Shelf
def SgnR (s:Int):Prop:=s=1∨s=-1∨s=0
theorem sgnL_range (T:Terms):∀ ps,SgnR (sgnL ps T).1
 | []=>.inr (.inr rfl)
 | p::ps=>by
  unfold sgnL
  split
  ·exact .inl rfl
  ·split
   ·exact .inr (.inl rfl)
   ·exact sgnL_range T ps
theorem sgnF_range (T:Terms):SgnR (sgnF T).1:=by
 unfold sgnF
 split
 ·exact .inr (.inr rfl)
 ·exact sgnL_range T _
def RetCm (f:Nat→Rat) (D:Prop) (w:World) (e:Ending) (w':World):Prop:=∃ s c:Int,e=.returned (.tuple #[.int .i64 s,.int .i64 c])∧SgnR s∧Hid (c=0→SgnIs f s)∧Hid (D→c=0)∧Below w.heap.size w w'
theorem CompareX_ok (T S:Terms) (D:Prop) (L M:TTexts) (u v:Value) (w:World) (hG:Glo w) (hP:Pri w) (hPl:SPl w) (hu:IsTerms w u L) (hv:IsTerms w v M) (hT:ResT L T) (hS:ResT M S) (h12:L.length+M.length≤12)
  (hD:D→∃ p q,T=oneT p 1∧S=oneT q 1∧Sz 28 p∧Sz 27 q∧((p - q).den≤1000∨p - q=0)) :
  Calls Tryz.prog 11 #[u,v] w (RetCm (fun P=>valT T P - valT S P) D w):=by
 obtain ⟨D',h1,h2⟩:∃ D':Option Rat,(∀ d,D'=some d→∃ p q,T=oneT p 1∧S=oneT q 1∧d=p - q∧Sz 28 p∧Sz 27 q)∧(D→∃ d,D'=some d∧(d.den≤1000∨d=0)):=by
  by_cases hd:D
  ·obtain ⟨p,q,e1,e2,s1,s2,hk⟩:=hD hd
   exact ⟨some (p - q),fun d h=>by cases h;exact ⟨p,q,e1,e2,rfl,s1,s2⟩,fun _=>⟨_,rfl,hk⟩⟩
  ·refine ⟨none,fun d h=>?_,fun h=>absurd h hd⟩
   cases h
 have H1:=Lib.hid (SubX_ok T S D' L M u v w hG hP hu hv hT hS h12 h1)
 have H2:=Lib.hid (fun (T':Terms) (L':TTexts) (x:Value) (W:World) hG hPl (hx:IsTerms W x L') (h:ResT L' T')=>(by rw [h.cls] at hx;exact sign_ok T' x W hG hPl hx h.mid (by rw [h.same];exact h.len):Calls Tryz.prog 33 #[x] W (RetB (.tuple #[.int .i64 (sgnF T').1,.int .i64 (sgnF T').2]) W)))
 have HD:=Lib.hid h2
 have HG:=Lib.hid hG
 have HPL:=Lib.hid hPl
 generalize (fun P=>valT T P - valT S P)=f at *
 obtain ⟨a1,c1,rfl,_⟩:=hu
 obtain ⟨a2,c2,rfl,_⟩:=hv
 clear hG hP hPl hT hS h1 h2 hD h12
 go_enter Tryz.func11,Tryz.ntmps11
 go_wp2_with fail
 refine H1.out.mono ?_
 rintro e w1 ⟨x,c,L',rfl,hx,hT,hD2,hB1⟩
 clear H1
 by_cases hc:c=0
 ·obtain ⟨_,T',hR,hN,hO⟩:=hT.out hc
  have H3:=Lib.hid (H2.out T' L' x w1 (HG.out.below hB1) (HPL.out.below hB1) hx hR)
  have HR:=Lib.hid hR
  have HN:=Lib.hid hN
  have HO:Hid (D→(sgnF T').2=0):=Lib.hid (fun h=>by
   obtain ⟨d,hd,hk⟩:=HD.out h
   rw [hO d hd]
   exact sgnF_unit hk)
  have hrg:=sgnF_range T'
  have HSI:Hid ((sgnF T').2=0→SgnIs (valT T') (sgnF T').1):=Lib.hid (fun h=>sgnF_is HR.out.terms (by rw [← h]))
  obtain ⟨a3,c3,rfl,_⟩:=hx
  generalize (sgnF T').1=rs at *
  generalize (sgnF T').2=rc at *
  subst hc
  clear hT hD2 H2 hR hN hO
  go_wp2_with fail
  refine H3.out.mono ?_
  rintro e w2 ⟨rfl,hB2⟩
  have hb2:=below_trans' hB1 hB2
  clear hB2
  go_wp2_with fail
  refine bodyPost_ret (v:=.tuple #[.int .i64 rs,.int .i64 rc]) (by simp [results,Tryz.results11,go_sem]) rfl ?_
  exact ⟨rs,rc,rfl,hrg,Lib.hid (fun h=>(HSI.out h).near HN.out),Lib.hid HO.out,hb2⟩
 ·have HO:Hid (D→c=0):=Lib.hid (fun h=>by
   obtain ⟨d,hd,hk⟩:=HD.out h
   exact hD2.out d hd)
  obtain ⟨a3,c3,rfl,_⟩:=hx
  clear hT hD2 H2
  go_wp2_with fail
  refine bodyPost_ret (v:=.tuple #[.int .i64 0,.int .i64 c]) (by simp [results,Tryz.results11,go_sem]) rfl ?_
  exact ⟨0,c,rfl,.inr (.inr rfl),Lib.hid (fun h=>absurd h hc),HO,hB1⟩
theorem isTerms_box {w:World} {b:Nat} {x y:ByteArray} {t:TypeId} (h:BoxT2 t w b (.string x) (.string y)):IsTerms w (.slice (some ⟨b,0,none⟩) 1 1) [(x,y)] :=
 ⟨some ⟨b,0,none⟩,1,rfl,Nat.le_refl _,fun _=>⟨b,0,rfl,fun k hk=>by
  obtain rfl:k=0:=by simpa using hk
  exact ⟨h.c0,h.c1⟩⟩⟩
theorem sub_den (z:Int) (p:Rat):((z:Rat) - p).den≤p.den:=by
 rw [← rat_sub]
 have e1:((z:Rat)).den=1:=rfl
 have e2:((z:Rat)).num=z:=rfl
 rw [e1,e2]
 have h:Rat.divInt (z * (p.den:Int) - p.num * ((1:Nat):Int)) (((1:Nat):Int) * (p.den:Int))=mkRat (z * (p.den:Int) - p.num * ((1:Nat):Int)) p.den:=by
  rw [show ((1:Nat):Int) * (p.den:Int)=((p.den:Nat):Int) by simp,Rat.divInt_ofNat]
 rw [h,Rat.den_mkRat]
 split
 ·exact p.den_pos
 ·exact Nat.div_le_self _ _
theorem order_ok (T:Terms) (z:Int) (D:Prop) (L:TTexts) (v:Value) (w:World) (hG:Glo w) (hP:Pri w) (hPl:SPl w) (hv:IsTerms w v L) (hT:ResT L T) (h12:L.length≤11) (hz:z.natAbs < 10 ^ 50)
  (hD:D→∃ p,T=oneT p 1∧Sz 27 p∧p.den≤1000∧z.natAbs < 10 ^ 27) :
  Calls Tryz.prog 149 #[v,.string (numS (z:Rat))] w (RetCm (fun P=>valT T P - (z:Rat)) D w):=by
 have hzz:Sz 60 (z:Rat):=sz_int (Nat.lt_of_lt_of_le hz (pow10_le (a:=50) (b:=60) (by decide))) (by decide)
 have H1:=Lib.hid (fun (x:Value) W hG hP (hx:IsTerms W x [(numS (z:Rat),⟨#[49]⟩)])=>MakeN_ok (z:Rat) (numS (z:Rat)) x W hG hP (numS_list _) hzz hx)
 have H2:=Lib.hid (fun (x:Value) W (hB:Below w.heap.size w W) (hx:IsTerms W x (oneL (z:Rat) 1))=>(CompareX_ok (oneT (z:Rat) 1) T D (oneL (z:Rat) 1) L x v W (hG.below hB) (hP.below hB) (hPl.below hB) hx (hv.below hB) ((oneSurd hzz).res (Nat.le_trans (oneL_len _ 1) (by decide))) hT (by have:=oneL_len (z:Rat) 1;omega) (fun h=>by
   obtain ⟨p,e,s,k,hz2⟩:=hD h
   exact ⟨_,_,rfl,e,sz_int (Nat.lt_of_lt_of_le hz2 (pow10_le (a:=27) (b:=28) (by decide))) (by decide),s,.inl (Nat.le_trans (sub_den z p) k)⟩)).mono fun e w' h=>(by
   obtain ⟨s,c,he,hr,hs,hd,hB⟩:=h
   exact ⟨s,c,he,hr,Lib.hid fun h0=>(hs.out h0).neg (g:=fun P=>valT T P - (z:Rat)) fun P=>by rw [valT_oneT];grind,hd,hB⟩:∃ s c:Int,e=.returned (.tuple #[.int .i64 s,.int .i64 c])∧SgnR s∧Hid (c=0→SgnIs (fun P=>valT T P - (z:Rat)) (-s))∧Hid (D→c=0)∧Below W.heap.size W w'))
 generalize (fun P=>valT T P - (z:Rat))=f at *
 have HG:=Lib.hid hG
 have HP:=Lib.hid hP
 generalize numS (z:Rat)=sz at *
 obtain ⟨a1,c1,rfl,_⟩:=hv
 clear hG hP hPl hT hz hzz hD
 go_enter Tryz.func149,Tryz.ntmps149
 go_wp2_with fail
 have hb0:Below w.heap.size w (w.alloc (.cells #[.string sz,.string ⟨#[49]⟩] 49)):=qbl
 have hx0:IsTerms (w.alloc (.cells #[.string sz,.string ⟨#[49]⟩] 49)) (.slice (some ⟨w.heap.size,0,none⟩) 1 1) [(sz,⟨#[49]⟩)]:=isTerms_box (t:=49) (BoxT2.new rfl)
 generalize w.alloc (.cells #[.string sz,.string ⟨#[49]⟩] 49)=W0 at *
 refine (H1.out _ _ (HG.out.below hb0) (HP.out.below hb0) hx0).mono ?_
 rintro e w1 ⟨x,rfl,hx,hB1⟩
 have hb1:=below_trans' hb0 hB1
 have H3:=Lib.hid (H2.out x w1 hb1 hx)
 obtain ⟨a3,c3,rfl,_⟩:=hx
 clear hB1 hb0 hx0 H1 H2
 go_wp2_with fail
 refine H3.out.mono ?_
 rintro e w2 ⟨s,c,rfl,hr,hs,hd,hB2⟩
 have hb2:=below_trans' hb1 hB2
 have hwn:IntKind.i64.wrap (-s)=-s:=IntWalk.i64_in _ (by rcases hr with rfl|rfl|rfl<;>decide)
 have hr2:SgnR (-s):=by rcases hr with rfl|rfl|rfl<;>simp [SgnR]
 clear hB2 H3
 go_wp2_with fail
 refine bodyPost_ret (v:=.tuple #[.int .i64 (-s),.int .i64 c]) (by simp [results,Tryz.results149,go_sem]) rfl ?_
 exact ⟨-s,c,rfl,hr2,hs,hd,hb2⟩
end Go.Proofs.YthihcjgmlbnapaaGreatDoor
namespace Go.Proofs.YthihcjgmlbnapaaGreatDoor
open Go.RowKit Go.Shelf
def longB (q:Rat):Bool:=decide (20 < (Lib.decDigits q.num.natAbs).length) || decide (20 < (Lib.decDigits q.den).length)
theorem longB_false {q:Rat} (h:longB q=false):Sz 20 q:=by
 unfold longB at h
 simp only [Bool.or_eq_false_iff,decide_eq_false_iff_not] at h
 exact ⟨lenSz (by omega),lenSz (by omega)⟩
theorem longB_sz {q:Rat} (h:Sz 20 q):longB q=false:=by
 unfold longB
 have h1:=len_of_lt h.1 (by decide)
 have h2:=len_of_lt h.2 (by decide)
 simp only [Bool.or_eq_false_iff,decide_eq_false_iff_not]
 omega
theorem encLong_ok (c:Rat) (s:ByteArray) (w:World) (hG:Glo w) (hs:s.data.toList=ratText c) (hc:Sz 60 c) :
  Calls Tryz.prog 147 #[.string s] w (RetB (.bool (longB c)) w):=by
 have HPA:=Lib.hid (PartsQ_ok (k:=60) s w hG hs hc (by decide))
 have HBL:Hid (longB c=(decide (20 < (Lib.decDigits c.num.natAbs).length) || decide (20 < (Lib.decDigits c.den).length))):=Lib.hid rfl
 obtain ⟨X,hX⟩:∃ X,(Lib.decDigits c.num.natAbs).length=X:=⟨_,rfl⟩
 obtain ⟨Y,hY⟩:∃ Y,(Lib.decDigits c.den).length=Y:=⟨_,rfl⟩
 rw [hX,hY] at HBL
 have HX:=Lib.hid hX
 have HY:=Lib.hid hY
 generalize longB c=B at *
 clear hG hs hc hX hY
 go_enter Tryz.func147,Tryz.ntmps147
 go_wp2_with fail
 refine HPA.out.mono ?_
 rintro e w1 ⟨a,b,ha,hb,rfl,hB1⟩
 have HTR:=Lib.hid (fun W=>trimPrefix_any a ⟨#[45]⟩ W (trimMinus ha.out))
 have hbl:b.size=Y:=by rw [← HY.out,← hb.out];rfl
 clear HPA
 go_wp2_with fail
 refine (HTR.out _).mono ?_
 rintro e w2 ⟨z,hz,rfl,rfl⟩
 have hzl:z.size=X:=by rw [← HX.out,← hz.out];rfl
 clear HTR
 by_cases h1:20 < X
 ·have h1I:(20:Int) < (z.size:Int):=by omega
  have HE:Hid (B=true):=Lib.hid (by rw [HBL.out,decide_eq_true h1];rfl)
  clear h1
  obtain rfl:=HE.out
  go_wp2_with fail
  go_ret
  exact ⟨rfl,hB1⟩
 ·have h1I:¬ (20:Int) < (z.size:Int):=by omega
  have HE:Hid (B=decide (20 < Y)):=Lib.hid (by rw [HBL.out,decide_eq_false h1];rfl)
  clear h1
  by_cases h2:20 < Y
  ·have h2I:(20:Int) < (b.size:Int):=by omega
   have HE2:Hid (B=true):=Lib.hid (by rw [HE.out,decide_eq_true h2])
   have h1X:¬ (20:Int) < (X:Int):=by omega
   have h2Y:(20:Int) < (Y:Int):=by omega
   clear h2 HE h1I
   obtain rfl:=HE2.out
   go_wp2_with fail
   go_ret
   exact ⟨by simp [h1X,h2Y],hB1⟩
  ·have h2I:¬ (20:Int) < (b.size:Int):=by omega
   have HE2:Hid (B=false):=Lib.hid (by rw [HE.out,decide_eq_false h2])
   have h1X:¬ (20:Int) < (X:Int):=by omega
   have h2Y:¬ (20:Int) < (Y:Int):=by omega
   clear h2 HE h1I
   obtain rfl:=HE2.out
   go_wp2_with fail
   go_ret
   exact ⟨by simp [h1X,h2Y],hB1⟩
theorem encCkF_ok (c:Rat) (s r:ByteArray) (w:World) (hG:Glo w) (hs:s.data.toList=ratText c) (hc:Sz 60 c) :
  Calls Tryz.prog 146 #[.agg #[.string s,.string r]] w (RetB (.bool (longB c)) w):=by
 have H:=Lib.hid (fun W hG=>encLong_ok c s W hG hs hc)
 have HG:=Lib.hid hG
 generalize longB c=B at *
 clear hG hs hc
 go_enter Tryz.func146,Tryz.ntmps146
 go_wp2_with fail
 refine (H.out _ (HG.out.below qbl)).mono ?_
 rintro e w1 ⟨rfl,hB1⟩
 have hb1:Below w.heap.size w w1:=qbl
 clear hB1
 go_wp2_with fail
 go_ret
 exact ⟨rfl,hb1⟩
theorem checkSurd_ok (T:Terms) (L:TTexts) (v:Value) (w:World) (hG:Glo w) (hP:Pri w) (hv:IsTerms w v L) (hT:ResT L T) :
  Calls Tryz.prog 87 #[v] w (RetC0 (SurdOk L∧Short20 T) w):=by
 have H1:=Lib.hid (sCheck_ok L v w hG hP hv hT.sizes)
 have H2:=Lib.hid (fun W (hB:Below w.heap.size w W)=>containsTerm_any 146 #[] L (fun i=>longB (tq T i).1) v W (hv.below hB) (by have:=hT.len;omega) (enters_of Tryz.func146 (by kernel_rfl) rfl) (fun i hi W2 hW2=>by
   have h:=encCkF_ok (tq T i).1 (tt L i).1 (tt L i).2 W2 (hG.below (below_trans' hB hW2)) (hT.c i hi) (longD_sz (hT.cz i hi))
   exact h))
 have HS:Hid ((∀ k,k < L.length→longB (tq T k).1=false)↔Short20 T):=Lib.hid ⟨fun h x hx=>by
   obtain ⟨k,hk,rfl⟩:=List.getElem_of_mem hx
   have hk2:k < L.length:=by rw [← hT.same];exact hk
   have h1:=h k hk2
   have h2:=hT.rn k hk2
   rw [tq_get hk] at h1 h2
   exact ⟨longB_false h1,lenSz h2⟩,fun h k hk=>by
   have hk2:k < T.length:=by rw [hT.same];exact hk
   exact longB_sz (h _ (tq_mem hk2)).1⟩
 generalize SurdOk L=C1 at *
 generalize Short20 T=C2 at *
 clear hG hP hT
 obtain ⟨a1,c1,rfl,_⟩:=hv
 go_enter Tryz.func87,Tryz.ntmps87
 go_wp2_with fail
 refine H1.out.mono ?_
 rintro e w1 ⟨k1,rfl,h1,hB1⟩
 by_cases hk1:k1=0
 ·have J1:=Lib.hid (h1.out.1 hk1)
  subst hk1
  clear h1 H1
  go_wp2_with fail
  refine (H2.out _ hB1).mono ?_
  rintro e w2 ⟨b,rfl,hb,hB2⟩
  have hb2:=below_trans' hB1 hB2
  clear hB2 H2
  cases b
  ·have J2:=Lib.hid (HS.out.1 (hb.out.1 rfl))
   clear hb HS
   go_wp2_with fail
   go_ret
   exact ⟨0,rfl,Lib.hid ⟨fun _=>⟨J1.out,J2.out⟩,fun _=>rfl⟩,hb2⟩
  ·have J2:Hid (¬ C2):=Lib.hid (fun h=>by have:=hb.out.2 (HS.out.2 h);cases this)
   clear hb HS
   go_wp2_with fail
   go_ret
   exact ⟨4,rfl,Lib.hid ⟨fun h=>absurd h (by decide),fun h=>absurd h.2 J2.out⟩,hb2⟩
 ·have J1:Hid (¬ C1):=Lib.hid (fun h=>hk1 (h1.out.2 h))
  clear h1 H1 H2 HS
  go_wp2_with fail
  go_ret
  exact ⟨1,rfl,Lib.hid ⟨fun h=>absurd h (by decide),fun h=>absurd h.1 J1.out⟩,hB1⟩
end Go.Proofs.YthihcjgmlbnapaaGreatDoor
namespace Go.Proofs.YthihcjgmlbnapaaGreatDoor
open Go.RowKit Go.Shelf
def CeilZ (f:Nat→Rat) (z:Int):Prop:=Near0 (fun P=>f P - (z:Rat))∨(PosF (fun P=>(z:Rat) - f P)∧PosF (fun P=>f P - ((z - 1:Int):Rat)))
def RetEn (f:Nat→Rat) (D:Prop) (w:World) (e:Ending) (w':World):Prop:=∃ (lo hi:ByteArray) (c:Int),e=.returned (.tuple #[.agg #[.string lo,.string hi],.int .i64 c])∧Hid (c=0→∃ z:Int,hi=numS (z:Rat)∧z.natAbs < 10 ^ 50∧CeilZ f z)∧Hid (D→c=0)∧Below w.heap.size w w'
theorem Tryz.infoRange:(Tryz.prog.info? 54).map (·.size)=some 2:=by kernel_rfl
structure DefZ (T:Terms) (z0:Int) (p:Rat):Prop where
 one:T=oneT p 1
 sz:Sz 20 p
 den:p.den≤1000
 z:smK T / 1000 - 1=z0
 zl:z0.natAbs < 10 ^ 15
 lo:(z0:Rat) < p
 hi:p < ((z0+2:Int):Rat)
theorem DefZ.sgn {T:Terms} {z0:Int} {p:Rat} (h:DefZ T z0 p) {z:Int} {s:Int} (hs:SgnIs (fun P=>valT T P - (z:Rat)) s):((z:Rat) < p→s=1)∧(p < (z:Rat)→s=-1):=by
 have e:(fun P=>valT T P - (z:Rat))=fun _=>p - (z:Rat):=funext fun P=>by rw [h.one,valT_oneT]
 rw [e] at hs
 refine ⟨fun h1=>hs.of_pos (PosF.const (c:=p - (z:Rat)) (by grind) fun _=>rfl),fun h1=>hs.of_neg (PosF.const (c:=(z:Rat) - p) (by grind) fun _=>by grind)⟩
theorem encOf_ok (T:Terms) (D:Prop) (L:TTexts) (v:Value) (w:World) (hG:Glo w) (hP:Pri w) (hPl:SPl w) (hv:IsTerms w v L) (hT:ResT L T) (h12:L.length≤11) (h20:Short20 T)
  (hD:D→∃ z0 p,DefZ T z0 p) :
  Calls Tryz.prog 88 #[v,.string ⟨#[49]⟩] w (RetEn (valT T) D w):=by
 have hTL:T.length≤12:=by rw [hT.same];omega
 have hTl:T.length=L.length:=hT.same
 obtain ⟨z0,hz0⟩:∃ z,smK T / 1000 - 1=z:=⟨_,rfl⟩
 have HN:=Lib.hid (fun W (hB:Below w.heap.size w W)=>near_ok T v W (hG.below hB) (by have:=hv.below hB;rw [hT.cls] at this;exact this) h20 hTL)
 rw [hz0] at HN
 have hz45:z0.natAbs≤10 ^ 45+1:=by
  have:=smK_lt h20 hTL
  omega
 have hD2:Hid (D→∃ p,DefZ T z0 p):=Lib.hid (fun h=>by
  obtain ⟨z,p,hd⟩:=hD h
  have:=hd.z
  rw [hz0] at this
  subst this
  exact ⟨p,hd⟩)
 have HO:=Lib.hid (fun (k:Nat) (hk:k≤20) W (hB:Below w.heap.size w W)=>order_ok T (z0+(k:Int)) D L v W (hG.below hB) (hP.below hB) (hPl.below hB) (hv.below hB) hT h12 (by
   have e:(10:Nat) ^ 45+30 < 10 ^ 50:=by decide
   omega) (fun h=>by
   obtain ⟨p,hd⟩:=hD2.out h
   have h1:=hd.zl
   have e:(10:Nat) ^ 15+30 < 10 ^ 27:=by decide
   exact ⟨p,hd.one,hd.sz.mono (by decide),hd.den,by omega⟩))
 have HAD:=Lib.hid (fun (k:Nat) (hk:k≤20) W hG=>(by
   have h:=(RAdd_ok (a:=50) (numS ((z0+(k:Int):Int):Rat)) ⟨#[49]⟩ W hG (numS_list _) (sz_int (by
    have e:(10:Nat) ^ 45+30 < 10 ^ 50:=by decide
    omega) (by decide)) one_text one_sz (by decide)).mono fun e w' h=>h.bb
   rw [show ((z0+(k:Int):Int):Rat)+1=((z0+((k+1:Nat):Int):Int):Rat) by rw [Rat.intCast_add,Rat.intCast_add];push_cast;grind] at h
   exact h:Calls Tryz.prog 84 #[.string (numS ((z0+(k:Int):Int):Rat)),.string ⟨#[49]⟩] W (RetB (.tuple #[.string (numS ((z0+((k+1:Nat):Int):Int):Rat)),.int .i64 0]) W)))
 have HZB:Hid (∀ k:Nat,k≤20→(z0+(k:Int)).natAbs < 10 ^ 50):=Lib.hid (fun k hk=>by
  have e:(10:Nat) ^ 45+30 < 10 ^ 50:=by decide
  omega)
 have HDS:Hid (D→∀ k:Nat,2≤k→∀ s,SgnIs (fun P=>valT T P - ((z0+(k:Int):Int):Rat)) s→s=-1):=Lib.hid (fun h k hk s hs=>by
  obtain ⟨p,hd⟩:=hD2.out h
  refine (hd.sgn hs).2 ?_
  have h1:=hd.hi
  have h2:((z0+2:Int):Rat)≤((z0+(k:Int):Int):Rat):=Rat.intCast_le_intCast.2 (by omega)
  grind)
 have HDS0:Hid (D→∀ s,SgnIs (fun P=>valT T P - ((z0+((0:Nat):Int):Int):Rat)) s→s=1):=Lib.hid (fun h s hs=>by
  obtain ⟨p,hd⟩:=hD2.out h
  refine (hd.sgn hs).1 ?_
  have h1:=hd.lo
  rw [show z0+((0:Nat):Int)=z0 by simp]
  exact h1)
 have e00:z0+((0:Nat):Int)=z0:=by simp
 have HO0:=Lib.hid (fun W (hB:Below w.heap.size w W)=>HO.out 0 (by decide) W hB)
 rw [e00] at HO0 HDS0
 obtain ⟨s0,hs00⟩:∃ s,numS (z0:Rat)=s:=⟨_,rfl⟩
 rw [hs00] at HO0 HN
 have hns:Hid (s0=numS ((z0+((0:Nat):Int):Int):Rat)):=Lib.hid (by rw [e00,hs00])
 have HE0:=Lib.hid e00
 generalize hf:valT T=vf at *
 have hlw:IntKind.i64.wrap ((L.length:Int)+4)=(L.length:Int)+4:=IntWalk.i64_in _ (by omega)
 obtain ⟨a1,c1,rfl,_⟩:=hv
 have HG:=Lib.hid hG
 clear hG hP hPl hT h20 hTL hD hz0 hz45 hD2 hf hTl e00 hs00
 go_enter Tryz.func88,Tryz.ntmps88
 go_wp2_with fail
 have hb0:Below w.heap.size w (w.alloc (.cells #[.string ⟨#[]⟩,.string ⟨#[]⟩] 54)):=qbl
 have x0:BoxT2 54 (w.alloc (.cells #[.string ⟨#[]⟩,.string ⟨#[]⟩] 54)) w.heap.size (.string ⟨#[]⟩) (.string ⟨#[]⟩):=BoxT2.new rfl
 generalize w.alloc (.cells #[.string ⟨#[]⟩,.string ⟨#[]⟩] 54)=W0 at *
 refine (HN.out _ hb0).mono ?_
 rintro e w1 ⟨rfl,hB1⟩
 have hb1:=below_trans' hb0 hB1
 replace x0:=x0.below hB1
 clear hB1 HN hb0
 go_wp2_with fail
 refine (HO0.out _ hb1).mono ?_
 rintro e w2 ⟨n0,c0,rfl,hr0,hs0,hd0,hB2⟩
 have hb2:=below_trans' hb1 hB2
 replace x0:=x0.below hB2
 clear hB2 hb1
 by_cases hz:c0=0∧n0=0
 ·obtain ⟨rfl,rfl⟩:=hz
  have HRES:Hid (∃ z:Int,s0=numS (z:Rat)∧z.natAbs < 10 ^ 50∧CeilZ vf z):=Lib.hid (⟨z0+((0:Nat):Int),hns.out,HZB.out 0 (by decide),.inl (by
   rw [HE0.out]
   rcases hs0.out rfl with ⟨h,_⟩|⟨h,_⟩|⟨_,h⟩
   ·cases h
   ·cases h
   ·exact h)⟩)
  clear hs0 hd0
  go_wp2_with (refine wpList_store2 rfl _ _ _ rfl x0 Tryz.infoRange rfl rfl rfl rfl (fun W hS hx=>?_);have hbz:=Lib.hid (hS.below hb2 (by simp));have g0:=hx.c0;have g1:=hx.c1;clear hS hx)
  refine bodyPost_ret (v:=.tuple #[.agg #[.string s0,.string s0],.int .i64 0]) (by simp [results,Tryz.results88,go_sem,g0,g1]) rfl ?_
  exact ⟨s0,s0,0,rfl,Lib.hid (fun _=>HRES.out),Lib.hid (fun _=>rfl),hbz.out⟩
 ·have hcase:(c0=0∧(n0 == 0)=false∧¬ n0=0)∨(¬ c0=0∧(c0 == 0)=false):=by
   by_cases h:c0=0
   ·exact .inl ⟨h,by simpa using fun h2=>hz ⟨h,h2⟩,fun h2=>hz ⟨h,h2⟩⟩
   ·exact .inr ⟨h,by simpa using h⟩
  have HI0:Hid (D→c0=0∧n0=1):=Lib.hid (fun h=>⟨hd0.out h,HDS0.out h n0 (hs0.out (hd0.out h))⟩)
  have HI1:Hid (c0=0→n0≠0):=Lib.hid (fun h h2=>hz ⟨h,h2⟩)
  clear hz hd0 HDS0 HO0
  rcases hcase with ⟨hc0,hdec,hn0⟩|⟨hc0,hdec⟩
  all_goals (
   first|subst hc0|skip
   go_wp2_with fail
   go_loopw [6,8,9,42] (fun lo n f i wr=>∃ (k:Nat) (nn ff:Int),k≤L.length+4∧i=.int .i64 k∧lo=.string (numS ((z0+(k:Int):Int):Rat))∧n=.int .i64 nn∧f=.int .i64 ff∧SgnR nn∧Hid (ff=0→SgnIs (fun P=>vf P - ((z0+(k:Int):Int):Rat)) nn)∧Hid (D→ff=0∧nn=1)∧Hid (ff=0→nn≠0)∧BoxT2 54 wr w.heap.size (.string ⟨#[]⟩) (.string ⟨#[]⟩)∧Below w.heap.size w wr) (fun _ _ _ i _=>L.length+4 - (intOf i).toNat)
   case atStart=>exact ⟨0,n0,_,by omega,rfl,by rw [hns.out],rfl,rfl,hr0,Lib.hid (by rw [HE0.out];first|exact hs0.out|exact fun _=>hs0.out trivial|exact fun h=>absurd h hc0),Lib.hid (by first|exact HI0.out|exact fun h=>⟨rfl,(HI0.out h).2⟩|exact fun h=>⟨rfl,HI0.out h⟩|exact fun h=>absurd h HI0.out|exact fun h=>(HI0.out h).1.elim|exact fun h=>(HI0.out h).elim),Lib.hid (by first|exact HI1.out|exact fun _=>HI1.out trivial|exact fun h=>absurd h hc0),x0,hb2⟩
   case round =>
    clear hr0 hs0 HI0 HI1 x0 hb2 hns HE0
    obtain ⟨k,nn,ff,hk,rfl,rfl,rfl,rfl,hrn,hsn,hin,hzn,x1,hB⟩:=hrel
    by_cases hkl:k < L.length+4
    ·have HA:=Lib.hid (HAD.out k (by omega))
     have HC:=Lib.hid (HO.out (k+1) (by omega))
     have HZ1:=Lib.hid (HZB.out (k+1) (by omega))
     have hkI:(k:Int) < (L.length:Int)+4:=by omega
     have hk1:IntKind.i64.wrap ((k:Int)+1)=((k+1:Nat):Int):=IntWalk.i64_in _ (by omega)
     obtain ⟨Z,hZ⟩:∃ Z,z0+(k:Int)=Z:=⟨_,rfl⟩
     have hZ1:z0+((k+1:Nat):Int)=Z+1:=by omega
     rw [hZ] at HA hsn ⊢
     rw [hZ1] at HA HC HZ1
     have HZZ:=Lib.hid hZ1
     clear hZ hZ1
     obtain ⟨sl,hsl⟩:∃ s,numS (Z:Rat)=s:=⟨_,rfl⟩
     obtain ⟨sn,hsn1⟩:∃ s,numS ((Z+1:Int):Rat)=s:=⟨_,rfl⟩
     rw [hsl] at HA ⊢
     rw [hsn1] at HA HC
     have HSN:=Lib.hid hsn1
     clear hsl hsn1
     go_wp2_with fail
     refine (HA.out _ (HG.out.below hB)).mono ?_
     rintro e w3 ⟨rfl,hB3⟩
     have hb3:=below_trans' hB hB3
     replace x1:=x1.below hB3
     clear hB3 HA
     go_wp2_with fail
     refine (HC.out _ hb3).mono ?_
     rintro e w4 ⟨m,c,rfl,hrm,hsm,hdm,hB4⟩
     have hb4:=below_trans' hb3 hB4
     replace x1:=x1.below hB4
     clear hB4 HC hb3 hB
     by_cases hc:c=0
     ·replace hsm:=Lib.hid (hsm.out hc)
      subst hc
      by_cases hm0:m=0
      ·subst hm0
       have HRES:Hid (∃ z:Int,sn=numS (z:Rat)∧z.natAbs < 10 ^ 50∧CeilZ vf z):=Lib.hid (⟨Z+1,HSN.out.symm,HZ1.out,.inl (by
        rcases hsm.out with ⟨h,_⟩|⟨h,_⟩|⟨_,h⟩
        ·cases h
        ·cases h
        ·exact h)⟩)
       clear hsm hsn hin hzn hdm
       go_wp2_with (refine wpList_store2 rfl _ _ _ rfl x1 Tryz.infoRange rfl rfl rfl rfl (fun W hS hx=>?_);have hbz:=Lib.hid (hS.below hb4 (by simp));have g0:=hx.c0;have g1:=hx.c1;clear hS hx)
       refine bodyPost_ret (v:=.tuple #[.agg #[.string sn,.string sn],.int .i64 0]) (by simp [results,Tryz.results88,go_sem,g0,g1]) rfl ?_
       exact ⟨sn,sn,0,rfl,Lib.hid (fun _=>HRES.out),Lib.hid (fun _=>rfl),hbz.out⟩
      ·by_cases hff:ff=0
       ·replace hsn:=Lib.hid (hsn.out hff)
        subst hff
        by_cases hnp:0 < nn
        ·by_cases hmn:m < 0
         ·have HRES:Hid (∃ z:Int,sn=numS (z:Rat)∧z.natAbs < 10 ^ 50∧CeilZ vf z):=Lib.hid (⟨Z+1,HSN.out.symm,HZ1.out,.inr ⟨by
           rcases hsm.out with ⟨h,_⟩|⟨_,h⟩|⟨h,_⟩
           ·omega
           ·have e:(fun P=>-(vf P - ((Z+1:Int):Rat)))=fun P=>((Z+1:Int):Rat) - vf P:=funext fun P=>by grind
            rw [← e];exact h
           ·omega,by
           rcases hsn.out with ⟨_,h⟩|⟨h,_⟩|⟨h,_⟩
           ·rw [show Z+1 - 1=Z by omega];exact h
           ·omega
           ·omega⟩⟩)
          clear hsm hsn hin hzn hdm hrm hrn
          go_wp2_with (refine wpList_store2 rfl _ _ _ rfl x1 Tryz.infoRange rfl rfl rfl rfl (fun W hS hx=>?_);have hbz:=Lib.hid (hS.below hb4 (by simp));have g0:=hx.c0;have g1:=hx.c1;clear hS hx)
          refine bodyPost_ret (v:=.tuple #[.agg #[.string sl,.string sn],.int .i64 0]) (by simp [results,Tryz.results88,go_sem,g0,g1]) rfl ?_
          exact ⟨sl,sn,0,rfl,Lib.hid (fun _=>HRES.out),Lib.hid (fun _=>rfl),hbz.out⟩
         ·have HI:Hid (D→m=1):=Lib.hid (fun _=>by rcases hrm with h|h|h<;>omega)
          have HM0:Hid (m≠0):=Lib.hid hm0
          clear hsn hin hzn hdm
          go_wp2_with fail
          go_roundw
          case rel=>exact ⟨k+1,m,0,by omega,by go_num,by rw [HZZ.out,HSN.out],rfl,rfl,hrm,Lib.hid (by rw [HZZ.out];exact fun _=>hsm.out),Lib.hid (fun h=>⟨rfl,HI.out h⟩),Lib.hid (fun _=>HM0.out),x1,hb4⟩
          case measure=>simp [intOf];omega
        ·have HI:Hid (D→m=1):=Lib.hid (fun h=>by have:=(hin.out h).2;omega)
         have HM0:Hid (m≠0):=Lib.hid hm0
         clear hsn hin hzn hdm
         go_wp2_with fail
         go_roundw
         case rel=>exact ⟨k+1,m,0,by omega,by go_num,by rw [HZZ.out,HSN.out],rfl,rfl,hrm,Lib.hid (by rw [HZZ.out];exact fun _=>hsm.out),Lib.hid (fun h=>⟨rfl,HI.out h⟩),Lib.hid (fun _=>HM0.out),x1,hb4⟩
         case measure=>simp [intOf];omega
       ·have HI:Hid (D→m=1):=Lib.hid (fun h=>absurd (hin.out h).1 hff)
        have HM0:Hid (m≠0):=Lib.hid hm0
        clear hsn hin hzn hdm
        go_wp2_with fail
        go_roundw
        case rel=>exact ⟨k+1,m,0,by omega,by go_num,by rw [HZZ.out,HSN.out],rfl,rfl,hrm,Lib.hid (by rw [HZZ.out];exact fun _=>hsm.out),Lib.hid (fun h=>⟨rfl,HI.out h⟩),Lib.hid (fun _=>HM0.out),x1,hb4⟩
        case measure=>simp [intOf];omega
     ·have HI:Hid (D→c=0∧m=1):=Lib.hid (fun h=>absurd (hdm.out h) hc)
      have HM0:Hid (c=0→m≠0):=Lib.hid (fun h=>absurd h hc)
      by_cases hff:ff=0
      ·subst hff
       clear hsn hin hzn hdm
       go_wp2_with fail
       go_roundw
       case rel=>exact ⟨k+1,m,c,by omega,by go_num,by rw [HZZ.out,HSN.out],rfl,rfl,hrm,by rw [HZZ.out];exact hsm,HI,HM0,x1,hb4⟩
       case measure=>simp [intOf];omega
      ·clear hsn hin hzn hdm
       go_wp2_with fail
       go_roundw
       case rel=>exact ⟨k+1,m,c,by omega,by go_num,by rw [HZZ.out,HSN.out],rfl,rfl,hrm,by rw [HZZ.out];exact hsm,HI,HM0,x1,hb4⟩
       case measure=>simp [intOf];omega
    ·obtain rfl:k=L.length+4:=by omega
     have HND:Hid (D→(4:Int)=0):=Lib.hid (fun h=>by
      obtain ⟨h1,h2⟩:=hin.out h
      have h3:=HDS.out h (L.length+4) (by omega) nn (hsn.out h1)
      omega)
     clear hsn hin hzn
     go_wp2_with (refine wpList_store2 rfl _ _ _ rfl x1 Tryz.infoRange rfl rfl rfl rfl (fun W hS hx=>?_);have hbz:=Lib.hid (hS.below hB (by simp));have g0:=hx.c0;have g1:=hx.c1;clear hS hx)
     refine bodyPost_ret (v:=.tuple #[.agg #[.string ⟨#[]⟩,.string ⟨#[]⟩],.int .i64 4]) (by simp [results,Tryz.results88,go_sem,g0,g1]) rfl ?_
     exact ⟨_,_,4,rfl,Lib.hid (fun h=>absurd h (by decide)),HND,hbz.out⟩)
theorem EncOf_ok (T:Terms) (D:Prop) (L:TTexts) (v:Value) (w:World) (hG:Glo w) (hP:Pri w) (hPl:SPl w) (hv:IsTerms w v L) (hT:ResT L T) (h12:L.length≤11)
  (hD:D→(∃ z0 p,DefZ T z0 p)∧SurdOk L∧Short20 T) :
  Calls Tryz.prog 42 #[v,.int .i64 0] w (RetEn (valT T) D w):=by
 have H1:=Lib.hid (fun W (hB:Below w.heap.size w W)=>checkSurd_ok T L v W (hG.below hB) (hP.below hB) (hv.below hB) hT)
 have H2:=Lib.hid (fun (h:Short20 T) W (hB:Below w.heap.size w W)=>encOf_ok T D L v W (hG.below hB) (hP.below hB) (hPl.below hB) (hv.below hB) hT h12 h (fun h=>(hD h).1))
 have HD:=Lib.hid (fun h=>(hD h).2)
 generalize valT T=vf at *
 have H0:∀ W,Calls Tryz.prog 89 #[.int .i64 0] W (RetB (.string ⟨#[49]⟩) W):=by
  intro W
  clear H1 H2 HD hD hG hP hPl hv hT
  go_enter Tryz.func89,Tryz.ntmps89
  go_wp2_with fail
  go_ret
  exact ⟨rfl,qbl⟩
 have HU:=Lib.hid H0
 clear hG hP hPl hT hD H0
 obtain ⟨a1,c1,rfl,_⟩:=hv
 go_enter Tryz.func42,Tryz.ntmps42
 go_wp2_with fail
 have hb0:Below w.heap.size w (w.alloc (.cells #[.string ⟨#[]⟩,.string ⟨#[]⟩] 54)):=qbl
 have x0:BoxT2 54 (w.alloc (.cells #[.string ⟨#[]⟩,.string ⟨#[]⟩] 54)) w.heap.size (.string ⟨#[]⟩) (.string ⟨#[]⟩):=BoxT2.new rfl
 generalize w.alloc (.cells #[.string ⟨#[]⟩,.string ⟨#[]⟩] 54)=W0 at *
 refine (H1.out _ hb0).mono ?_
 rintro e w1 ⟨k,rfl,hk,hB1⟩
 have hb1:=below_trans' hb0 hB1
 replace x0:=x0.below hB1
 clear hB1 H1 hb0
 by_cases hk0:k=0
 ·have H3:=Lib.hid (H2.out (hk.out.1 hk0).2)
  subst hk0
  clear hk H2 HD
  go_wp2_with fail
  refine (HU.out _).mono ?_
  rintro e w2 ⟨rfl,hB2⟩
  have hb2:=below_trans' hb1 hB2
  replace x0:=x0.below hB2
  clear hB2 HU hb1
  go_wp2_with fail
  refine (H3.out _ hb2).mono ?_
  rintro e w3 ⟨lo,hi,c,rfl,hr,hd,hB3⟩
  have hb3:=below_trans' hb2 hB3
  replace x0:=x0.below hB3
  clear hB3 H3 hb2
  go_wp2_with (refine wpList_store2 rfl _ _ _ rfl x0 Tryz.infoRange rfl rfl rfl rfl (fun W hS hx=>?_);have hbz:=Lib.hid (hS.below hb3 (by simp));have g0:=hx.c0;have g1:=hx.c1;clear hS hx)
  refine bodyPost_ret (v:=.tuple #[.agg #[.string lo,.string hi],.int .i64 c]) (by simp [results,Tryz.results42,go_sem,g0,g1]) rfl ?_
  exact ⟨lo,hi,c,rfl,hr,hd,hbz.out⟩
 ·have HN:Hid (D→k=0):=Lib.hid (fun h=>hk.out.2 (HD.out h))
  clear hk H2 HD
  go_wp2_with (refine wpList_store2 rfl _ _ _ rfl x0 Tryz.infoRange rfl rfl rfl rfl (fun W hS hx=>?_);have hbz:=Lib.hid (hS.below hb1 (by simp));have g0:=hx.c0;have g1:=hx.c1;clear hS hx)
  refine bodyPost_ret (v:=.tuple #[.agg #[.string ⟨#[]⟩,.string ⟨#[]⟩],.int .i64 k]) (by simp [results,Tryz.results42,go_sem,g0,g1]) rfl ?_
  exact ⟨_,_,k,rfl,Lib.hid (fun h=>absurd h hk0),HN,hbz.out⟩
end Go.Proofs.YthihcjgmlbnapaaGreatDoor
namespace Go.Proofs.YthihcjgmlbnapaaGreatDoor
open Go
theorem parse_cases:∀ (l:List UInt8) (acc:Nat),(∀ c ∈ l,isDig c=true)→Lib.parseUint10 acc l=.range∨Lib.parseUint10 acc l=.ok (l.foldl (fun a c=>10 * a+(c.toNat - 48)) acc)
 | [],acc,_=>.inr rfl
 | c::r,acc,h=>by
  have hc:=(isDig_iff c).1 (h c (by simp))
  rw [Lib.parseUint10,if_pos hc]
  split
  ·exact .inl rfl
  ·split
   ·exact .inl rfl
   ·have e:=parse_cases r (acc * 10+(c.toNat - 48)) fun d hd=>h d (by simp [hd])
    rw [List.foldl_cons,Nat.mul_comm 10 acc]
    exact e
theorem atoi_range {n:Int} (h:n < -9223372036854775808∨9223372036854775807 < n):Lib.atoiAll (Lib.itoa n)=.range:=by
 have hp:Lib.parseMag (Lib.decDigits n.natAbs)=.range∨Lib.parseMag (Lib.decDigits n.natAbs)=.ok n.natAbs:=by
  unfold Lib.parseMag
  rw [if_neg (decDigits_ne _)]
  rcases parse_cases (Lib.decDigits n.natAbs) 0 (decDigits_isDig _) with h|h
  ·exact .inl h
  ·right
   rw [h]
   have:=dval_decDigits n.natAbs
   unfold dval at this
   rw [this]
 rcases itoa_cases n with ⟨h1,e⟩|⟨h1,e⟩
 ·rw [e,Lib.atoiAll_minus]
  rcases hp with hp|hp
  ·rw [hp];rfl
  ·rw [hp];unfold Lib.signed;simp only [];rw [if_pos (by omega)]
 ·rw [e]
  cases hd:Lib.decDigits n.natAbs with
  | nil=>exact absurd hd (decDigits_ne _)
  | cons c r =>
   have hc:=(isDig_iff c).1 (decDigits_isDig n.natAbs c (by rw [hd];simp))
   rw [Lib.atoiAll_plain c r (by omega) (by omega),← hd]
   rcases hp with hp|hp
   ·rw [hp];rfl
   ·rw [hp];unfold Lib.signless;simp only [];rw [if_pos (by omega)]
end Go.Proofs.YthihcjgmlbnapaaGreatDoor
