/- Joined texts: W6q, WFloorN, W02i, WRSub, WTileAny. -/
import Derived.Test.YteepphiomcedfaaGreatDoorJ24
import Derived.Test.YteepphiomcedfaaGreatDoorJ20
import Derived.Test.YteepphiomcedfaaGreatDoorJ04
import Derived.Test.YteepphiomcedfaaGreatDoorJ25
import Derived.Test.YteepphiomcedfaaGreatDoorJ27
import Derived.Test.YteepphiomcedfaaGreatDoorJ28
import Derived.Test.YteepphiomcedfaaGreatDoorJ09
set_option maxRecDepth 100000
set_option linter.unusedVariables false
set_option linter.unusedSimpArgs false
set_option maxHeartbeats 6400000
namespace Go.Proofs.YteepphiomcedfaaGreatDoor.R6
open Go.RowKit Go.Shelf
theorem Divide6n_ok {x y:Int} (s t:ByteArray) (w:World) (hG:Glo w) (hs:s.data.toList=Lib.itoa x) (hx:Fit x) (ht:t.data.toList=Lib.itoa y) (hy:Fit y) (h0:0 < y) (hx0:0≤x) :
  Calls Tryz.prog 109 #[.string s,.string t] w (RetQR (x / y) (x % y) w):=by
 have HB:=Lib.hid (fun W=>both6s s t W hs hx ht hy)
 have HR1:=Lib.hid (fun W=>read6s s W hs (by have:=fits_size hs hx;omega))
 have HR2:=Lib.hid (fun W=>read6s t W ht (by have:=fits_size ht hy;omega))
 have z1:=fits_size hs hx
 have z2:=fits_size ht hy
 have HG:=Lib.hid hG
 have hq0:0≤x / y:=Int.ediv_nonneg hx0 (by omega)
 have hqx:(x / y).natAbs≤x.natAbs:=by
  have:=Int.ediv_le_self (a:=x) y hx0
  omega
 have hr0:0≤x % y:=Int.emod_nonneg _ (by omega)
 have hr1:x % y < y:=Int.emod_lt_of_pos _ h0
 have HF:=Lib.hid (fit_le hqx hx)
 have h48:(t.toList == [48])=false:=by
  rw [Lib.toList_data,ht,pos_text (by omega)]
  have:Lib.decDigits y.natAbs≠[48]:=fun e=>by have:=congrArg dval e;rw [dval_decDigits] at this;have h2:dval [48]=0:=rfl;omega
  simpa using this
 by_cases h17:s.size≤17∧t.size≤17
 ·have HT:=Lib.hid (fun W=>two6s s t W hs h17.1 ht h17.2)
  have p1:x.natAbs < 10 ^ 17:=itoa_lt (by rw [← hs];exact h17.1)
  have p2:y.natAbs < 10 ^ 17:=itoa_lt (by rw [← ht];exact h17.2)
  have htd:x.tdiv y=x / y:=Int.tdiv_eq_ediv_of_nonneg hx0
  have htm:x.tmod y=x % y:=Int.tmod_eq_emod_of_nonneg hx0
  have hyz:¬ y=0:=by omega
  have hyb:(y == 0)=false:=by simpa using hyz
  obtain ⟨q,hq⟩:∃ q,x / y=q:=⟨_,rfl⟩
  obtain ⟨r,hr⟩:∃ r,x % y=r:=⟨_,rfl⟩
  rw [hq] at hqx htd HF hq0
  rw [hr] at htm hr0 hr1
  have hw1:IntKind.i64.wrap q=q:=IntWalk.i64_in _ (by omega)
  have HI:=Lib.hid (fun W hG=>itoa_any q (by omega) (by omega) W hG)
  have H0:=Lib.hid (fun W hG=>itoa_any r (by omega) (by omega) W hG)
  have hyb2:decide (y < 0)=false:=by simp;omega
  have hrb2:decide (r < 0)=false:=by simp;omega
  rw [hq,hr]
  have hx0 : -100000000000000000 < x:=by omega
  have hx1:x < 100000000000000000:=by omega
  have hy1:y < 100000000000000000:=by omega
  clear hqx hq hr HF
  clear hs ht hG p1 p2
  by_cases hrz:r=0
  ·subst hrz
   go_enter Tryz.func109,Tryz.ntmps109
   go_wp2_with fail
   refine (HB.out _).mono ?_
   rintro e w1 ⟨rfl,rfl⟩
   go_wp2_with fail
   refine (HT.out _).mono ?_
   rintro e w1 ⟨rfl,rfl⟩
   go_wp2_with fail
   go_quiet (fail)
   go_wp2_with fail
   refine (HI.out _ (HG.out.below qbl)).mono ?_
   rintro e w2 ⟨s1,hs1,rfl,hB⟩
   have HR:=Lib.hid hs1
   have hb2:Below w1.heap.size w1 w2:=qbl
   clear hs1 hB
   go_wp2_with fail
   refine (H0.out _ (HG.out.below hb2)).mono ?_
   rintro e w3 ⟨s2,hs2,rfl,hB3⟩
   have HR':=Lib.hid hs2
   have hb3:Below w1.heap.size w1 w3:=qbl
   clear hs2 hB3
   go_wp2_with fail
   go_ret3
   exact ⟨s1,s2,HR.out,HR'.out,rfl,hb3⟩
  ·have hrz2:(r == 0)=false:=by simpa using hrz
   go_enter Tryz.func109,Tryz.ntmps109
   go_wp2_with fail
   refine (HB.out _).mono ?_
   rintro e w1 ⟨rfl,rfl⟩
   go_wp2_with fail
   refine (HT.out _).mono ?_
   rintro e w1 ⟨rfl,rfl⟩
   go_wp2_with fail
   go_quiet (fail)
   go_wp2_with fail
   refine (HI.out _ (HG.out.below qbl)).mono ?_
   rintro e w2 ⟨s1,hs1,rfl,hB⟩
   have HR:=Lib.hid hs1
   have hb2:Below w1.heap.size w1 w2:=qbl
   clear hs1 hB
   go_wp2_with fail
   refine (H0.out _ (HG.out.below hb2)).mono ?_
   rintro e w3 ⟨s2,hs2,rfl,hB3⟩
   have HR':=Lib.hid hs2
   have hb3:Below w1.heap.size w1 w3:=qbl
   clear hs2 hB3
   go_wp2_with fail
   go_ret3
   exact ⟨s1,s2,HR.out,HR'.out,rfl,hb3⟩
 ·have HT:=Lib.hid (fun W=>two6s_long s t W hs h17)
  have b1f:decide (x < 0)=false:=by simp;omega
  have HB1x:=Lib.hid b1f
  have HX0:=Lib.hid hx0
  have b2f:decide (y < 0)=false:=by simp;omega
  have HB2:=Lib.hid b2f
  have H0:=Lib.hid h0
  have HXL:=Lib.hid (fits_lt hx)
  have HYL:=Lib.hid (fits_lt hy)
  clear hs ht hG hqx b2f b1f hq0 hr0 hr1 hx0
  go_enter Tryz.func109,Tryz.ntmps109
  go_wp2_with fail
  refine (HB.out _).mono ?_
  rintro e w1 ⟨rfl,rfl⟩
  go_wp2_with fail
  refine (HT.out _).mono ?_
  rintro e w1 ⟨⟨u1,u2,rfl⟩,rfl⟩
  go_wp2_with fail
  refine (HR1.out _).mono ?_
  rintro e w2 ⟨v1,rfl,i1,hB2⟩
  have I1:=Lib.hid i1
  obtain ⟨a1,l1,c1,rfl,-,-,-⟩:=i1
  rw [HB1x.out]
  go_wp2_with fail
  refine (HR2.out _).mono ?_
  rintro e w3 ⟨v2,rfl,i2,hB3⟩
  have I2:=Lib.hid i2
  have I1':=Lib.hid (I1.out.below hB3)
  obtain ⟨a2,l2,c2,rfl,-,-,-⟩:=i2
  have hb3:=below_trans' hB2 hB3
  rw [HB2.out]
  clear hB2 hB3 I1
  go_wp2_with fail
  obtain ⟨k1,hk1,i1,d1,g1⟩:=(I1'.out.len HXL.out).row
  obtain ⟨k2,hk2,i2,d2,g2⟩:=(I2.out.len HYL.out).row
  have HI1:=Lib.hid i1
  have HI2:=Lib.hid i2
  have HDV:=Lib.hid (fun W (hB:Below w3.heap.size w3 W)=>divide6_ok _ _ W (HI1.out.below hB) (HI2.out.below hB) d1 d2 (by omega) (by omega) (by omega))
  clear i1 i2 d1 d2 I1' I2
  go_wp2_with fail
  refine (HDV.out _ qbl).mono ?_
  rintro e w4 ⟨lq,vq,lr,vr,rfl,iq,ir,nq,nr,kq,kr,hB4⟩
  have hb4:Below w1.heap.size w1 w4:=qbl
  have k0:w4.cell? ⟨w3.heap.size,0,none⟩=some (.bool false):=keep hB4 (by simp [go_sem])
  have k1':w4.cell? ⟨w3.heap.size+1,0,none⟩=some (.bool false):=keep hB4 (by simp [go_sem])
  have zk0:=lt_of_cell k0
  have zk1:=lt_of_cell k1'
  obtain ⟨qa,qc,rfl⟩:=iq.slice
  obtain ⟨ra,rc,rfl⟩:=ir.slice
  have hx':(x.natAbs:Int)=x:=by have:=HX0.out;omega
  have hy':(y.natAbs:Int)=y:=by have:=H0.out;omega
  rw [hx',hy'] at nq nr
  have hr0:0≤x % y:=Int.emod_nonneg _ (by have:=H0.out;omega)
  have hq0:0≤x / y:=Int.ediv_nonneg HX0.out (by have:=H0.out;omega)
  have IR:Hid (IsBigS w4 (.agg #[.bool false,.slice ra lr.length rc]) (x % y) (max k1.length k2.length)):=Lib.hid ⟨ra,lr,rc,by rw [show decide (x % y < 0)=false by simp;omega],ir,by rw [show ((x % y).natAbs:Int)=x % y by omega];exact nr,by omega⟩
  have IQ:Hid (IsBigS w4 (.agg #[.bool false,.slice qa lq.length qc]) (x / y) (max k1.length k2.length)):=Lib.hid ⟨qa,lq,qc,by rw [show decide (x / y < 0)=false by simp;omega],iq,by rw [show ((x / y).natAbs:Int)=x / y by omega];exact nq,by omega⟩
  have HRS:=Lib.hid (fun W (hB:Below w4.heap.size w4 W)=>result6s _ W (IQ.out.below hB) HF.out)
  have HWR:=Lib.hid (fun W (hB:Below w4.heap.size w4 W)=>write6s _ W (IR.out.below hB) (by omega))
  generalize lr.length=nlr at *
  generalize lq.length=nlq at *
  by_cases hnl:nlr=0
  ·subst hnl
   clear iq ir nq nr kq kr hB4 H0 HDV HI1 HI2 hb3 hr0 hq0 hx' hy' HX0
   go_wp2_with fail
   refine (HRS.out _ qbl).mono ?_
   rintro e w5 ⟨r,hr,rfl,hB5⟩
   have HR:=Lib.hid hr
   have hb45:Below w4.heap.size w4 w5:=qbl
   have hb5:Below w1.heap.size w1 w5:=qbl
   have r0:w5.cell? ⟨w4.heap.size+1,0,none⟩=some (.bool false):=keep hB5 (by simp [go_sem])
   have r1:w5.cell? ⟨w4.heap.size+1,1,none⟩=some (.slice ra 0 rc):=keep hB5 (by simp [go_sem])
   clear hr hB5
   go_wp2_with fail
   refine (HWR.out _ hb45).mono ?_
   rintro e w6 ⟨z,hz,rfl,hB6⟩
   have HZ:=Lib.hid hz
   have hb6:Below w1.heap.size w1 w6:=qbl
   clear hz hB6
   go_wp2_with fail
   go_ret3
   exact ⟨r,z,HR.out,HZ.out,rfl,hb6⟩
  ·have hl0:decide (0 < (nlr:Int))=true:=by simp;omega
   clear iq ir nq nr kq kr hB4 H0 HDV HI1 HI2 hb3 hr0 hq0 hx' hy' HX0
   go_wp2_with fail
   refine (HRS.out _ qbl).mono ?_
   rintro e w5 ⟨r,hr,rfl,hB5⟩
   have HR:=Lib.hid hr
   have hb45:Below w4.heap.size w4 w5:=qbl
   have hb5:Below w1.heap.size w1 w5:=qbl
   have r0:w5.cell? ⟨w4.heap.size+1,0,none⟩=some (.bool false):=keep hB5 (by simp [go_sem])
   have r1:w5.cell? ⟨w4.heap.size+1,1,none⟩=some (.slice ra nlr rc):=keep hB5 (by simp [go_sem])
   clear hr hB5
   go_wp2_with fail
   refine (HWR.out _ hb45).mono ?_
   rintro e w6 ⟨z,hz,rfl,hB6⟩
   have HZ:=Lib.hid hz
   have hb6:Below w1.heap.size w1 w6:=qbl
   clear hz hB6
   go_wp2_with fail
   go_ret3
   exact ⟨r,z,HR.out,HZ.out,rfl,hb6⟩
end Go.Proofs.YteepphiomcedfaaGreatDoor.R6
namespace Go.Proofs.YteepphiomcedfaaGreatDoor
open Go.RowKit
theorem Floor_q {k:Nat} {q:Rat} (s:ByteArray) (w:World) (hG:Glo w) (hs:s.data.toList=ratText q) (hq:Sz k q) (hk:k≤300) (h0:0≤q.num) :
  Calls Tryz.prog 46 #[.string s] w (RetN (q.floor:Int) w):=by
 by_cases hsm:Small q
 ·exact Floor_small s w hG hs hsm
 ·have hsz:=txt_size hs hq hk
  have hno:natOf s.data.toList=none:=by rw [hs];exact natOf_big hsm
  have RS:=Lib.hid (fun W hG=>read_any s W hG hs hq hk)
  have DV:=Lib.hid (fun (a b:ByteArray) W hG h1 h2=>IDivide_ok q.num (q.den:Int) a b W hG h1 (hq.fn hk) h2 (hq.fd hk) (by have:=q.den_pos;omega) (.inr h0))
  have HF:Hid (ratText (q.floor:Int)=Lib.itoa (q.num / (q.den:Int))):=Lib.hid (by rw [ratText_int,Rat.floor_def])
  have HN:=Lib.hid hno
  have HG:=Lib.hid hG
  clear hs hG hq hno hsm h0
  go_enter Tryz.func46,Tryz.ntmps46
  go_wp2_with fail
  refine (nativeOf_none s _ (by omega) HN.out).mono ?_
  rintro e w1 ⟨rfl,hB1⟩
  have hb1:Below w.heap.size w w1:=qbl
  clear hB1
  go_wp2_with fail
  refine (RS.out _ (HG.out.below qbl)).mono ?_
  rintro e w2 ⟨a,b,ha,hb,rfl,hB2⟩
  have hb2:Below w.heap.size w w2:=qbl
  clear hB2
  go_wp2_with fail
  refine (DV.out a b _ (HG.out.below qbl) ha.out (by rw [hb.out,itoa_natCast])).mono ?_
  rintro e w3 ⟨x,y,hx,hy,rfl,hB3⟩
  have HX:=Lib.hid hx
  clear hx hy
  go_wp2_with fail
  go_ret2
  exact ⟨x,HX.out.trans HF.out.symm,rfl,qbl⟩
theorem Int_q (n:Int) (s:ByteArray) (w:World) (hG:Glo w) (hs:s.data.toList=ratText n) (hn:n.natAbs≤1152921504606846976) :
  Calls Tryz.prog 47 #[.string s] w (RetB (.tuple #[.int .i64 n,.int .i64 0]) w):=by
 have hsz:Sz 20 ((n:Int):Rat):=⟨by show n.natAbs < _;omega,by show 1 < _;omega⟩
 have RS:=Lib.hid (fun W hG=>read_any s W hG hs hsz (by omega))
 have HG:=Lib.hid hG
 clear hs hG hsz
 go_enter Tryz.func47,Tryz.ntmps47
 go_wp2_with fail
 refine (RS.out _ HG.out).mono ?_
 rintro e w1 ⟨a,b,ha,hb,rfl,hB1⟩
 have hb1:=eq_of_list (s:=b) (m:=[49]) (by rw [hb.out];exact one_digits)
 have hat:Hid (Lib.atoiAll a.data.toList=.ok n):=Lib.hid (by rw [ha.out,Rat.num_intCast];exact atoi_itoa (by omega) (by omega))
 have hal:Hid (a.size≤1000):=Lib.hid (by
  have h1:=itoa_len_le (n:=n) (k:=20) (by omega) (by omega)
  have h2:a.size=a.data.toList.length:=rfl
  rw [h2,ha.out]
  exact Nat.le_trans h1 (by omega))
 go_wp2_with fail
 refine (atoi_any a _ hal.out hat.out).mono ?_
 rintro e w2 ⟨rfl,hB2⟩
 go_wp2_with fail
 go_ret2
 exact ⟨rfl,qbl⟩
end Go.Proofs.YteepphiomcedfaaGreatDoor
namespace Go.Proofs.YteepphiomcedfaaGreatDoor
open Go.RowKit
theorem RFloor02_q {k:Nat} {q:Rat} (s:ByteArray) (w:World) (hG:Glo w) (hs:s.data.toList=ratText q) (hq:Sz k q) (hk:k≤300) (h0:0≤q.num) :
  Calls Tryz.prog 51 #[.string s] w (RetN (q.floor:Int) w):=by
 have HC:=Lib.hid (rCheck02_q s w hG hs hq hk)
 have HI:=Lib.hid (fun W=>rints_q s W hs hq hk)
 have HP:=Lib.hid (fun W=>rparts_q s W hs hq hk)
 have hfl:q.floor=q.num / (q.den:Int):=Rat.floor_def q
 have hd:=q.den_pos
 have hf0:0≤q.floor:=by rw [hfl];exact Int.ediv_nonneg h0 (by omega)
 have hfz:q.floor≤q.num:=by rw [hfl];exact Int.ediv_le_self _ h0
 have hff:Fit q.floor:=fit_le (by omega) (hq.fn hk)
 have DV:=Lib.hid (fun (a b:ByteArray) W (hB:Below w.heap.size w W) h1 h2=>R6.Divide6n_ok (x:=q.num) (y:=(q.den:Int)) a b W (hG.below hB) h1 (hq.fn hk) h2 (hq.fd hk) (by omega) h0)
 have MK:=Lib.hid (fun (a:ByteArray) W (hB:Below w.heap.size w W) h1=>make2_ok (n:=q.floor) (d:=1) a ⟨#[49]⟩ W (hG.below hB) h1 hff (by decide +kernel) fit_one (by omega))
 have hdi:Rat.divInt q.floor 1=((q.floor:Int):Rat):=by rw [show (1:Int)=((1:Nat):Int) from rfl,Rat.divInt_ofNat,Rat.mkRat_one]
 rw [hdi] at MK
 have HFL:=Lib.hid hfl
 have HF0:=Lib.hid hf0
 have HFZ:=Lib.hid hfz
 have H0:=Lib.hid h0
 have HDI:=Lib.hid hdi
 clear hs hG hq hfl hf0 hfz hff h0 hdi
 go_enter Tryz.func51,Tryz.ntmps51
 go_wp2_with fail
 refine HC.out.mono ?_
 rintro e w1 ⟨rfl,hB1⟩
 go_wp2_with fail
 refine (HI.out _).mono ?_
 rintro e w2 ⟨b1,hc1,hB2⟩
 have hb2:=below_trans' hB1 hB2
 clear hB1 hB2
 rcases hc1 with ⟨rfl,rfl,p1,p2⟩|⟨rfl,rfl⟩
 ·have hn0:=H0.out
  have htd:q.num.tdiv (q.den:Int)=q.floor:=by rw [HFL.out];exact Int.tdiv_eq_ediv_of_nonneg hn0
  have htm:q.num.tmod (q.den:Int)=q.num % (q.den:Int):=Int.tmod_eq_emod_of_nonneg hn0
  have hm0:0≤q.num % (q.den:Int):=Int.emod_nonneg _ (by omega)
  obtain ⟨m,hm⟩:∃ m,q.num % (q.den:Int)=m:=⟨_,rfl⟩
  obtain ⟨F,hF⟩:∃ F,q.floor=F:=⟨_,rfl⟩
  have hF0:=HF0.out
  have hFz:=HFZ.out
  rw [hm] at htm hm0
  rw [hF] at htd hF0 hFz
  have QK:=Lib.hid (fun W=>quick02_ok F 1 W (by omega) (by omega) (by omega))
  have HD2:=HDI.out
  rw [hF] at HD2
  rw [HD2] at QK
  have hw1:IntKind.i64.wrap F=F:=IntWalk.i64_in _ (by omega)
  have hw2:IntKind.i64.wrap m=m:=IntWalk.i64_in _ (by have:=Int.emod_lt_of_pos q.num (show (0:Int) < (q.den:Int) by omega);omega)
  have hz:¬ (q.den:Int)=0:=by omega
  have hmb:decide (m < 0)=false:=by simp;omega
  have HFq:=Lib.hid hF
  clear hF hm HF0 HFZ HFL HDI HD2 MK DV HI HC HP
  go_wp2_with fail
  refine (QK.out _).mono ?_
  rintro e w3 ⟨r,hr,rfl,hB3⟩
  have HR:=Lib.hid hr
  clear hr
  go_wp2_with fail
  go_ret2
  exact ⟨r,HR.out.trans (by rw [HFq.out]),rfl,qbl⟩
 ·go_wp2_with fail
  refine (HP.out _).mono ?_
  rintro e w3 ⟨a,b,ha,hb,rfl,hB3⟩
  have hb3:=below_trans' hb2 hB3
  clear hb2 hB3
  go_wp2_with fail
  refine (DV.out a b _ hb3 ha.out (den_text hb.out)).mono ?_
  rintro e w4 ⟨x,y,hx,hy,rfl,hB4⟩
  have hb4:=below_trans' hb3 hB4
  have HX:=Lib.hid hx
  clear hx hy hb3 hB4
  go_wp2_with fail
  refine (MK.out x _ hb4 (by rw [HX.out,HFL.out])).mono ?_
  rintro e w5 ⟨r,hr,rfl,hB5⟩
  have HR:=Lib.hid hr
  clear hr
  go_wp2_with fail
  go_ret2
  exact ⟨r,HR.out,rfl,qbl⟩
theorem RInt02_n (n:Nat) (s:ByteArray) (w:World) (hG:Glo w) (hs:s.data.toList=ratText ((n:Int):Rat)) (hn:n≤1073741824) :
  Calls Tryz.prog 52 #[.string s] w (RetB (.tuple #[.int .i64 n,.int .i64 0]) w):=by
 have hsz:Sz 20 (((n:Nat):Int):Rat):=⟨by show ((n:Nat):Int).natAbs < _;omega,by show 1 < _;omega⟩
 have HC:=Lib.hid (rCheck02_q s w hG hs hsz (by decide))
 have HSP:=Lib.hid (fun w=>split_q s w hs (by have:=txt_size hs hsz (by decide);omega))
 have hmb:minusB (((n:Nat):Int):Rat)=false:=by
  show decide (((n:Nat):Int) < 0)=false
  exact decide_eq_false (by omega)
 have hsl:slashB (((n:Nat):Int):Rat)=false:=by unfold slashB;simp
 have hnn:(((n:Nat):Int):Rat).num.natAbs=n:=by show ((n:Nat):Int).natAbs=n;omega
 have HN:=Lib.hid hnn
 unfold RetSplit at HSP
 rw [hmb,hsl] at HSP
 clear hs hG hsz hmb hsl hnn
 go_enter Tryz.func52,Tryz.ntmps52
 go_wp2_with fail
 refine HC.out.mono ?_
 rintro e w1 ⟨rfl,hB1⟩
 go_wp2_with fail
 refine (HSP.out _).mono ?_
 rintro e w2 ⟨a,d,ha,hd,rfl,hB2⟩
 have hb2:=below_trans' hB1 hB2
 have hat:a.data.toList=Lib.decDigits n:=by rw [ha.out,HN.out]
 have hl:a.size≤10:=by
  have:a.size=(Lib.decDigits n).length:=by rw [← hat];rfl
  rw [this,Lib.decDigits_length]
  exact nDigits_le_of_lt (show n < 10 ^ 10 by omega) (by decide)
 have HS:=Lib.hid (fun k hk=>R6.dec_dig (k:=k) hat hk)
 have HV:=Lib.hid (show dval (a.data.toList.take a.size)=n by rw [List.take_of_length_le (show a.data.toList.length≤a.size from Nat.le_refl _),hat,dval_decDigits])
 have HB:=Lib.hid (fun k (hk:k≤a.size)=>(show dval (a.data.toList.take k) < 10 ^ 10 from Nat.lt_of_lt_of_le (R6.dec_val_lt hat hk) (Nat.pow_le_pow_right (by omega) (by omega))))
 have hl1:decide ((19:Int) < (a.size:Int))=false:=by simp;omega
 have hl2:((a.size:Int) == 19)=false:=by simp;omega
 clear hB1 hB2 ha hd hat HN
 go_wp2_with fail
 go_loopw [9,10] (fun n i wr=>∃ k:Nat,k≤a.size∧i=.int .i64 k∧n=.int .i64 (dval (a.data.toList.take k):Nat)∧wr=w2) (fun _ i _=>a.size - (intOf i).toNat)
 case atStart=>exact ⟨0,by omega,rfl,rfl,rfl⟩
 case round =>
  obtain ⟨k,hk,rfl,rfl,hwr⟩:=hrel
  subst wr
  by_cases hlt:k < a.size
  ·obtain ⟨d1,d2⟩:=HS.out k hlt
   have hv:=HB.out k hk
   have hv8:(dval (a.data.toList.take k):Int)≤10000000000:=by omega
   have HVS:=Lib.hid (dval_snoc (a.data.toList.take k) a[k])
   clear hv
   go_wp2_with fail
   go_roundw
   case rel=>exact ⟨k+1,by omega,by go_num,ret_i64 (by rw [List.take_succ_eq_append_getElem hlt];have:=HVS.out;have e:a.data.toList[k]=a[k]:=rfl;rw [e];omega),by trivial⟩
   case measure=>simp [intOf];omega
  ·have e:k=a.size:=by omega
   subst e
   rw [HV.out]
   go_wp2_with fail
   go_ret2
   exact ⟨rfl,hb2⟩
end Go.Proofs.YteepphiomcedfaaGreatDoor
namespace Go.Proofs.YteepphiomcedfaaGreatDoor
open Go.RowKit
theorem Sz.sub {a b:Nat} {p q:Rat} (hp:Sz a p) (hq:Sz b q):Sz (a+b+1) (p - q):=by
 have:=Sz.add hp hq.neg'
 rwa [← Rat.sub_eq_add_neg] at this
theorem RSub_ok {a b:Nat} {p q:Rat} (s t:ByteArray) (w:World) (hG:Glo w) (hs:s.data.toList=ratText p) (hp:Sz a p) (ht:t.data.toList=ratText q) (hq:Sz b q) (hab:a+b+1≤300) :
  Calls Tryz.prog 43 #[.string s,.string t] w (RetN (p - q) w):=by
 by_cases hsm:Small p∧Small q
 ·exact Sub_small s t w hG hs hsm.1 ht hsm.2
 ·have f1:=fit_mul (x:=p.num) (y:=(q.den:Int)) hp.1 (by rw [den_nat];exact hq.2) (show a+b≤300 by omega)
  have f2:=fit_mul (x:=q.num) (y:=(p.den:Int)) hq.1 (by rw [den_nat];exact hp.2) (show b+a≤300 by omega)
  have f3:Fit (p.num * q.den - q.num * p.den):=fit_of_lt (pow300 (by have:=sum_lt hp hq.neg';rwa [Rat.neg_num,Rat.neg_den,Int.neg_mul,← Int.sub_eq_add_neg] at this) hab)
  have f4:Fit ((p.den:Int) * q.den):=fit_of_lt (pow300 (dens_lt hp hq) (by omega))
  have hC:CombOk 100 (p.num * q.den - q.num * p.den) (p.num * q.den) (q.num * p.den):=fun s t w hG h1 h2=>(Isub_ok _ _ s t w hG h1 f1 h2 f2).mono fun e w' h=>h.1 f3
  have HQ:=Lib.hid (fun W=>quick_no 99 s t W hs ht hp (show a≤300 by omega) hq (show b≤300 by omega) hsm)
  have HB:=Lib.hid (fun (bx:Nat) (W:World) (hG:Glo W) (hbx:W.cell? ⟨bx,0,none⟩=some (.func (.func 100) #[] #[]))=>both_cap (r:=p - q) 124 bx _ s t W hG hbx (fun W hG=>read_any s W hG hs hp (by omega)) (fun W hG=>read_any t W hG ht hq (by omega)) (enters_of Tryz.func124 (by kernel_rfl) rfl)
   (fun x y u v W hG hb h1 h2 h3 h4=>by rw [← rat_sub];exact combL_ok 100 bx x y u v W hG hb (enters_of Tryz.func100 (by kernel_rfl) rfl) h1 h2 h3 h4 (hp.fn (by omega)) (hp.fd (by omega)) (hq.fn (by omega)) (hq.fd (by omega)) f1 f2 f3 f4 p.den_pos q.den_pos hC))
  have HG:=Lib.hid hG
  clear hs ht hG hC f1 f2 f3 f4 hp hq
  go_enter Tryz.func43,Tryz.ntmps43
  go_wp2_with fail
  refine (HQ.out _).mono ?_
  rintro e w1 ⟨rfl,hB1⟩
  go_wp2_with fail
  refine (combined_any _ _).mono ?_
  rintro e w2 ⟨rfl,rfl⟩
  go_wp2_with fail
  refine (HB.out _ _ (HG.out.below qbl) (by simp [go_sem])).mono ?_
  rintro e w3 ⟨r,hr,rfl,hB3⟩
  have HR:=Lib.hid hr
  have hb3:Below w.heap.size w w3:=qbl
  clear hr hB3
  go_wp2_with fail
  go_ret2
  exact ⟨r,HR.out,rfl,hb3⟩
end Go.Proofs.YteepphiomcedfaaGreatDoor
namespace Go.Proofs.YteepphiomcedfaaGreatDoor
open Go.RowKit
noncomputable def spanQ (S:Texts) (wd:Int) (k:Nat):Rat:=(qOf (tx S k).2 - qOf (tx S k).1) / (wd:Rat)
noncomputable def fullQ (S:Texts) (wd:Int):Nat→Int
 | 0=>0
 | k+1=>fullQ S wd k+(spanQ S wd k).floor
noncomputable def cutQ (S:Texts) (wd:Int):Nat→Int
 | 0=>0
 | k+1=>if (spanQ S wd k).den=1 then cutQ S wd k else cutQ S wd k+1
def mostQ:Rat:=((1073741824:Int):Rat)
def FewQ (S:Texts) (wd:Int) (n:Nat):Prop:=∀ k,k < n→¬ mostQ < spanQ S wd k
structure SpanOk (S:Texts) (wd:Int) (k:Nat):Prop where
 d:Sz 73 (qOf (tx S k).2 - qOf (tx S k).1)
 q:Sz 77 (spanQ S wd k)
 pos:0 < spanQ S wd k
 fl:¬ mostQ < spanQ S wd k→0≤(spanQ S wd k).floor∧(spanQ S wd k).floor≤1073741824
theorem sz4 {wd:Int} (h1:1≤wd) (h2:wd≤2000):Sz 4 (wd:Rat):=sz_int (by omega) (by decide)
theorem num_posR {q:Rat} (h:0 < q):0 < q.num:=by
 have:=(Rat.lt_iff 0 q).1 h
 simpa using this
theorem floor_le' {q:Rat} {m:Int} (h:¬ ((m:Int):Rat) < q):q.floor≤m:=by
 have h1:(q.floor:Rat)≤q:=Rat.floor_le q
 have h2:(q.floor:Rat)≤((m:Int):Rat):=Rat.le_trans h1 (Rat.not_lt.1 h)
 exact_mod_cast h2
theorem span_ok {lo hi:ByteArray} {S:Texts} {wd:Int} {k:Nat} (h:rightB lo hi S=true) (h1:1≤wd) (h2:wd≤2000) (hk:k < S.length):SpanOk S wd k:=by
 have hs:=(rightB_short h).2.2.2 k hk
 have hlt:qOf (tx S k).1 < qOf (tx S k).2:=by
  unfold rightB at h
  rw [Bool.and_eq_true,List.all_eq_true] at h
  have:=h.2 k (List.mem_range.2 hk)
  unfold spanB at this
  simp only [Bool.and_eq_true,decide_eq_true_eq] at this
  exact this.1.2
 have z1:=(isShort_spec hs.1).2
 have z2:=(isShort_spec hs.2).2
 have hd:Sz 73 (qOf (tx S k).2 - qOf (tx S k).1):=by
  have:=Sz.add z2 z1.neg'
  rwa [← Rat.sub_eq_add_neg] at this
 have hw:(0:Rat) < wd:=by exact_mod_cast h1
 have hw0:0 < ((wd:Int):Rat).num:=by show 0 < wd;omega
 have hpos:0 < spanQ S wd k:=by
  unfold spanQ
  rw [Rat.div_def]
  refine Rat.mul_pos ?_ (Rat.inv_pos.2 hw)
  have:=Rat.add_lt_add_right (c:=-qOf (tx S k).1) |>.2 hlt
  rwa [← Rat.sub_eq_add_neg,← Rat.sub_eq_add_neg,Rat.sub_self] at this
 refine ⟨hd,Sz.div hd (sz4 h1 h2) hw0,hpos,fun hm=>⟨?_,floor_le' hm⟩⟩
 rw [Rat.floor_def]
 exact Int.ediv_nonneg (Int.le_of_lt (num_posR hpos)) (by have:=(spanQ S wd k).den_pos;omega)
theorem fullQ_bds {S:Texts} {wd:Int} {n:Nat} (hs:∀ k,k < n→SpanOk S wd k) (hf:FewQ S wd n):∀ k,k≤n→0≤fullQ S wd k∧fullQ S wd k≤1073741824 * k∧0≤cutQ S wd k∧cutQ S wd k≤k:=by
 intro k
 induction k with
 | zero=>intro _;simp [fullQ,cutQ]
 | succ k ih =>
  intro hk
  obtain ⟨i1,i2,i3,i4⟩:=ih (by omega)
  have:=(hs k (by omega)).fl (hf k (by omega))
  unfold fullQ cutQ
  split<;>omega
theorem den_floor {Q:Rat}:Q.den=1↔(Q.floor:Rat)=Q:=by
 constructor
 ·intro h
  rw [Rat.floor_def,h]
  refine Rat.ext ?_ h.symm
  show Q.num / ((1:Nat):Int)=Q.num
  exact Int.ediv_one _
 ·intro h
  rw [← h];rfl
theorem sz_most:Sz 10 mostQ:=sz_int (by decide) (by decide)
def RetCnt (b:Bool) (bf bc:Nat) (vf vc:Int) (w:World) (e:Ending) (w':World):Prop:=e=.returned (.bool b)∧Below bf w w'∧w'.cell? ⟨bf,0,none⟩=some (.int .i64 vf)∧w'.frozen? ⟨bf,0,none⟩=false∧w'.cell? ⟨bc,0,none⟩=some (.int .i64 vc)∧w'.frozen? ⟨bc,0,none⟩=false
theorem count_any {p q:Rat} (s t:ByteArray) (wd vf vc:Int) (bw bf bc:Nat) (w:World) (hG:Glo w) (hs:s.data.toList=ratText p) (ht:t.data.toList=ratText q) (hp:Sz 36 p) (hq:Sz 36 q) (h1:1≤wd) (h2:wd≤2000)
  (hd:Sz 73 (q - p)) (hQ:Sz 77 ((q - p) / (wd:Rat))) (hpos:0 < (q - p) / (wd:Rat)) (hfl:¬ mostQ < (q - p) / (wd:Rat)→0≤((q - p) / (wd:Rat)).floor∧((q - p) / (wd:Rat)).floor≤1073741824)
  (cw:w.cell? ⟨bw,0,none⟩=some (.int .i64 wd)) (cf:w.cell? ⟨bf,0,none⟩=some (.int .i64 vf)) (cc:w.cell? ⟨bc,0,none⟩=some (.int .i64 vc)) (ff:w.frozen? ⟨bf,0,none⟩=false) (fc:w.frozen? ⟨bc,0,none⟩=false) (hbc:bf < bc)
  (v1:0≤vf) (v2:vf≤1000000000000) (v3:0≤vc) (v4:vc≤1000000) :
  Calls Tryz.prog 42 #[.agg #[.string s,.string t],.pointer (some ⟨bw,0,none⟩),.pointer (some ⟨bf,0,none⟩),.pointer (some ⟨bc,0,none⟩)] w (fun e w' =>
   (mostQ < (q - p) / (wd:Rat)∧RetCnt false bf bc vf vc w e w') ∨
   (¬ mostQ < (q - p) / (wd:Rat)∧RetCnt true bf bc (vf+((q - p) / (wd:Rat)).floor) (if ((q - p) / (wd:Rat)).den=1 then vc else vc+1) w e w')):=by
 have HS:=Lib.hid hs
 have HT:=Lib.hid ht
 have HG:=Lib.hid hG
 have hw0:(0:Int) < ((wd:Int):Rat).num:=by show 0 < wd;omega
 generalize hQQ:(q - p) / (wd:Rat)=Q at *
 generalize hV:(if Q.den=1 then vc else vc+1)=V
 have HV1:=Lib.hid (show Q.den=1→V=vc from fun h=>by rw [← hV,if_pos h])
 have HV2:=Lib.hid (show ¬ Q.den=1→V=vc+1 from fun h=>by rw [← hV,if_neg h])
 clear hV
 have hden:=den_floor (Q:=Q)
 have HQQ:=Lib.hid hQQ
 have HDEN:=Lib.hid hden
 have HFL:=Lib.hid hfl
 have HPOS:=Lib.hid hpos
 have hzf:=lt_of_cell cf
 obtain ⟨o,hoo⟩:∃ o,ordQ Q mostQ=o:=⟨_,rfl⟩
 have HO:=Lib.hid hoo
 clear hs ht hG hden hQQ hfl hpos hoo
 go_enter Tryz.func42,Tryz.ntmps42
 go_wp2_with fail
 refine (RSub_ok t s _ (HG.out.below qbl) HT.out hq HS.out hp (by decide)).mono ?_
 rintro e w1 ⟨r1,hr1,rfl,hB1⟩
 have hb1:Below w.heap.size w w1:=qbl
 have HR1:=Lib.hid hr1
 have cw1:=keep hb1 cw
 clear hr1 hB1
 go_wp2_with fail
 refine (twhole_any wd _ (HG.out.below qbl) (by omega) (by omega)).mono ?_
 rintro e w2 ⟨r2,hr2,rfl,hB2⟩
 have hb2:Below w.heap.size w w2:=qbl
 clear hB2
 go_wp2_with fail
 refine (RDiv_ok r1 r2 _ (HG.out.below qbl) HR1.out hd hr2.out (sz4 h1 h2) (by decide) hw0).mono ?_
 rintro e w3 ⟨r3,hr3,rfl,hB3⟩
 have hb3:Below w.heap.size w w3:=qbl
 rw [HQQ.out] at hr3
 have HR3:=Lib.hid hr3
 clear hr3 hB3
 go_wp2_with fail
 refine (twhole_any 1073741824 _ (HG.out.below qbl) (by omega) (by omega)).mono ?_
 rintro e w4 ⟨r4,hr4,rfl,hB4⟩
 have hb4:Below w.heap.size w w4:=qbl
 have HR4:Hid (r4.data.toList=ratText mostQ):=Lib.hid hr4.out
 clear hr4 hB4
 have HCM:=Lib.hid (fun W hG=>RCompare_ok r3 r4 W hG HR3.out hQ HR4.out sz_most (by decide))
 rw [compareInt_rat,HO.out] at HCM
 go_wp2_with fail
 refine (HCM.out _ (HG.out.below qbl)).mono ?_
 rintro e w5 ⟨rfl,hB5⟩
 have hb5:Below w.heap.size w w5:=qbl
 clear hB5 HCM
 by_cases hm:mostQ < Q
 ·have ho1:o=1:=by
   rw [← HO.out];unfold ordQ;rw [if_neg (Rat.not_lt.2 (Rat.le_of_lt hm)),if_pos hm]
  subst ho1
  have HM:=Lib.hid hm
  have cf7:=keep hb5 cf
  have cc7:=keep hb5 cc
  have ff7:=keepf hb5 cf ff
  have fc7:=keepf hb5 cc fc
  have hbf7:Below bf w w5:=hb5.mono (by omega)
  clear HO hm
  go_wp2_with fail
  go_ret
  exact .inl ⟨HM.out,rfl,hbf7,cf7,ff7,cc7,fc7⟩
 ·have ho1:decide (0 < o)=false:=by
   rw [← HO.out];unfold ordQ
   split
   ·rfl
   ·rfl
  have HM:=Lib.hid hm
  obtain ⟨hf0,hf1⟩:=HFL.out hm
  have HP:=Lib.hid (Int.le_of_lt (num_posR HPOS.out))
  clear HO hm HFL
  go_wp2_with fail
  refine (Floor_q r3 _ (HG.out.below qbl) HR3.out hQ (by decide) HP.out).mono ?_
  rintro e w6 ⟨r6,hr6,rfl,hB6⟩
  have hb6:Below w.heap.size w w6:=qbl
  have HR6:=Lib.hid hr6
  clear hr6 hB6
  go_wp2_with fail
  refine (Int_q Q.floor r6 _ (HG.out.below qbl) HR6.out (by omega)).mono ?_
  rintro e w7 ⟨rfl,hB7⟩
  have hb7:Below w.heap.size w w7:=qbl
  have cf7:=keep hb7 cf
  have cc7:=keep hb7 cc
  have ff7:=keepf hb7 cf ff
  have fc7:=keepf hb7 cc fc
  have z1:=lt_of_cell cf7
  have z2:=lt_of_cell cc7
  have hw1:IntKind.i64.wrap (vf+Q.floor)=vf+Q.floor:=IntWalk.i64_in _ (by omega)
  have hw2:IntKind.i64.wrap (vc+1)=vc+1:=IntWalk.i64_in _ (by omega)
  have hbf7:Below bf w w7:=hb7.mono (by omega)
  clear hB7
  by_cases hde:Q.den=1
  ·have hE:(r6.toList == r3.toList)=true:=by
    have h3:=HDEN.out.1 hde
    have h4:r6.data.toList=r3.data.toList:=by rw [HR6.out,HR3.out,h3]
    rw [Lib.toList_data,Lib.toList_data,h4];simp
   have hVe:=HV1.out hde
   clear HV1 HV2
   subst hVe
   go_wp2_with fail
   go_ret
   refine .inr ⟨HM.out,rfl,(hbf7).setCell (Nat.le_refl _) _,?_,?_,?_,?_⟩
   all_goals simp [go_sem, *,World.cell?_setCell_far,Nat.ne_of_gt,Nat.ne_of_lt]
  ·have hE:(r6.toList == r3.toList)=false:=by
    have h4:r6.data.toList≠r3.data.toList:=by
     intro h
     rw [HR6.out,HR3.out] at h
     exact hde (HDEN.out.2 (ratText_inj' h))
    rw [Lib.toList_data,Lib.toList_data];simpa using h4
   have hVe:=HV2.out hde
   clear HV1 HV2
   subst hVe
   go_wp2_with fail
   go_ret
   refine .inr ⟨HM.out,rfl,((hbf7).setCell (Nat.le_refl _) _).setCell (Nat.le_of_lt hbc) _,?_,?_,?_,?_⟩
   all_goals simp [go_sem, *,World.cell?_setCell_far,Nat.ne_of_gt,Nat.ne_of_lt]
noncomputable def courseR (lo hi:ByteArray) (S:Texts) (wd:Int):Int × Int × Int:=open Classical in
 if codeC lo hi S wd=0 then (if FewQ S wd S.length then (fullQ S wd S.length,cutQ S wd S.length,0) else (0,0,4)) else (0,0,codeC lo hi S wd)
theorem codeC_zero {lo hi:ByteArray} {S:Texts} {wd:Int} (h:codeC lo hi S wd=0):rightB lo hi S=true∧1≤wd∧wd≤2000:=by
 unfold codeC at h
 split at h
 ·rename_i hr
  split at h
  ·rename_i hw;exact ⟨hr,hw⟩
  ·cases h
 ·cases h
theorem Course_any (lo hi:ByteArray) (S:Texts) (c:Value) (wd:Int) (w:World) (hG:Glo w) (hc:CourseAt w c lo hi S) :
  Calls Tryz.prog 10 #[c,.int .i64 wd] w (RetB (.tuple #[.int .i64 (courseR lo hi S wd).1,.int .i64 (courseR lo hi S wd).2.1,.int .i64 (courseR lo hi S wd).2.2]) w):=by
 have hri:=fun (w':World) (hB:Below w.heap.size w w')=>tright_any lo hi S c wd w' (hG.below hB) (hc.below hB)
 obtain ⟨v,rfl,hv,-,-,-⟩:=hc
 obtain ⟨a,cap,rfl,hcap,hcells⟩:=id hv
 by_cases hcd:codeC lo hi S wd=0
 rotate_left
 ·have HRI:=Lib.hid hri
  obtain ⟨k,hk⟩:∃ k,codeC lo hi S wd=k:=⟨_,rfl⟩
  have hR:courseR lo hi S wd=(0,0,k):=by unfold courseR;rw [if_neg hcd,hk]
  rw [hR]
  rw [hk] at hcd HRI
  have hkb:(k == 0)=false:=by simpa using hcd
  clear hv hG hcells hri hk hR hcd
  go_enter Tryz.func10,Tryz.ntmps10
  go_wp2_with fail
  refine (HRI.out _ qbl).mono ?_
  rintro e w1 ⟨rfl,hB1⟩
  have hb1:Below w.heap.size w w1:=qbl
  clear hB1
  go_wp2_with fail
  go_ret3
  exact ⟨rfl,hb1⟩
 ·obtain ⟨hrt,h1,h2⟩:=codeC_zero hcd
  have hso:=fun k (hk:k < S.length)=>span_ok hrt h1 h2 hk
  have hl64:=(rightB_short hrt).2.2.1
  have hss:=(rightB_short hrt).2.2.2
  have hR1:FewQ S wd S.length→courseR lo hi S wd=(fullQ S wd S.length,cutQ S wd S.length,0):=fun h=>by unfold courseR;rw [if_pos hcd,if_pos h]
  have hR2:¬ FewQ S wd S.length→courseR lo hi S wd=(0,0,4):=fun h=>by unfold courseR;rw [if_pos hcd,if_neg h]
  rw [hcd] at hri
  obtain ⟨R,hR⟩:∃ R,courseR lo hi S wd=R:=⟨_,rfl⟩
  rw [hR] at hR1 hR2 ⊢
  have HRI:=Lib.hid hri
  have HG:=Lib.hid hG
  have HC:=Lib.hid hcells
  have HSO:=Lib.hid hso
  have HSS:=Lib.hid hss
  have HR1:=Lib.hid hR1
  have HR2:=Lib.hid hR2
  clear hv hG hcells hri hso hss hR1 hR2 hR hcd hrt
  go_enter Tryz.func10,Tryz.ntmps10
  go_wp2_with fail
  refine (HRI.out _ qbl).mono ?_
  rintro e w1 ⟨rfl,hB1⟩
  have hb1:Below w.heap.size w w1:=qbl
  have c0:w1.cell? ⟨w.heap.size,0,none⟩=some (.string lo):=keep hB1 (by simp [go_sem])
  have c1:w1.cell? ⟨w.heap.size,1,none⟩=some (.string hi):=keep hB1 (by simp [go_sem])
  have c2:w1.cell? ⟨w.heap.size,2,none⟩=some (.slice a S.length cap):=keep hB1 (by simp [go_sem])
  have c3:w1.cell? ⟨w.heap.size+1,0,none⟩=some (.int .i64 wd):=keep hB1 (by simp [go_sem])
  have z1:=lt_of_cell c2
  have z2:=lt_of_cell c3
  go_wp2_with fail
  go_loopw [23] (fun i wr=>∃ k:Nat,k≤S.length∧i=.int .i64 k∧Hid (FewQ S wd k)∧Below w.heap.size w wr∧wr.cell? ⟨w.heap.size+1,0,none⟩=some (.int .i64 wd)∧wr.cell? ⟨w1.heap.size,0,none⟩=some (.int .i64 (fullQ S wd k))∧wr.frozen? ⟨w1.heap.size,0,none⟩=false∧wr.cell? ⟨w1.heap.size+1,0,none⟩=some (.int .i64 (cutQ S wd k))∧wr.frozen? ⟨w1.heap.size+1,0,none⟩=false) (fun i _=>S.length - (intOf i).toNat)
  case atStart =>
   refine ⟨0,by omega,rfl,Lib.hid (fun k hk=>by omega),qbl,?_,?_,?_,?_,?_⟩
   all_goals simp [go_sem,fullQ,cutQ, *,World.cell?_setCell_far]
  case round =>
   obtain ⟨j,hj,rfl,HF,hBj,kw,kf,kff,kc,kcf⟩:=hrel
   obtain ⟨bd1,bd2,bd3,bd4⟩:=fullQ_bds (fun k (hk:k < j)=>HSO.out k (by omega)) HF.out j (Nat.le_refl _)
   by_cases hjn:j=S.length
   ·subst hjn
    have HE:=Lib.hid (HR1.out HF.out)
    clear HF HR1 HR2 HSO HSS
    go_wp2_with fail
    go_quiet (fail)
    go_wp2_with fail
    go_ret3
    exact ⟨by rw [HE.out];first|done|rfl,qbl⟩
   ·have hj1:j < S.length:=by omega
    obtain ⟨b,off,rfl,hbb,hcc⟩:=HC.out (fun h=>by rw [h] at hj1;simp at hj1)
    obtain ⟨e0,e1⟩:=hcc j hj1
    have q0:=keep hBj e0
    have q1:=keep hBj e1
    obtain ⟨s1,s2⟩:=HSS.out j hj1
    have so:=HSO.out j hj1
    have hQd:spanQ S wd j=(qOf (tx S j).2 - qOf (tx S j).1) / (wd:Rat):=rfl
    have f1:fullQ S wd (j+1)=fullQ S wd j+(spanQ S wd j).floor:=rfl
    have f2:cutQ S wd (j+1)=if (spanQ S wd j).den=1 then cutQ S wd j else cutQ S wd j+1:=rfl
    obtain ⟨u,hu⟩:∃ u,(tx S j).1=u:=⟨_,rfl⟩
    obtain ⟨v,hv⟩:∃ v,(tx S j).2=v:=⟨_,rfl⟩
    obtain ⟨so1,so2,so3,so4⟩:=so
    rw [hQd] at f1 f2 so2 so3 so4
    have HFN:=Lib.hid (show ∀ (h:¬ mostQ < (qOf v - qOf u) / (wd:Rat)),FewQ S wd (j+1) from fun h k hk=>by
     rcases Nat.lt_or_eq_of_le (Nat.le_of_lt_succ hk) with h'|h'
     ·exact HF.out k h'
     ·rw [h',hQd,hu,hv];exact h)
    have HFX:=Lib.hid (show ∀ (h:mostQ < (qOf v - qOf u) / (wd:Rat)),¬ FewQ S wd S.length from fun h hx=>hx j hj1 (by rw [hQd,hu,hv];exact h))
    rw [hu] at q0 s1 so1 so2 so3 so4 f1 f2
    rw [hv] at q1 s2 so1 so2 so3 so4 f1 f2
    have HU:=Lib.hid (isShort_spec s1)
    have HV:=Lib.hid (isShort_spec s2)
    have HF1:=Lib.hid f1
    have HF2:=Lib.hid f2
    have hji:(j:Int) < (S.length:Int):=by omega
    have HCNT:=Lib.hid (fun W hG cw cf cc ff fc=>count_any u v wd (fullQ S wd j) (cutQ S wd j) (w.heap.size+1) w1.heap.size (w1.heap.size+1) W hG HU.out.1 HV.out.1 HU.out.2 HV.out.2 h1 h2 so1 so2 so3 so4 cw cf cc ff fc (by omega) (by omega) (by omega) (by omega) (by omega))
    clear hu hv e0 e1 hjn hcc s1 s2 so1 so2 so3 so4 f1 f2 hQd
    go_wp2_with fail
    refine (HCNT.out _ (HG.out.below qbl) (keep (bw4 (bw0 _ _) _) kw) (keep (bw4 (bw0 _ _) _) kf) (keep (bw4 (bw0 _ _) _) kc) (keepf (bw4 (bw0 _ _) _) kf kff) (keepf (bw4 (bw0 _ _) _) kc kcf)).mono ?_
    rintro e w2 (⟨hm,rfl,hB2,kf',kff',kc',kcf'⟩|⟨hm,rfl,hB2,kf',kff',kc',kcf'⟩)
    ·have hB2':Below w.heap.size w w2:=(bw4 hBj _).trans (hB2.mono (by omega))
     have HE:=Lib.hid (HR2.out (HFX.out hm))
     clear HF HR1 HR2 HSO HSS HF1 HF2 HFN HFX HCNT hm hB2
     go_wp2_with fail
     go_ret3
     exact ⟨by rw [HE.out];first|done|rfl,hB2'⟩
    ·have hB2':Below w.heap.size w w2:=(bw4 hBj _).trans (hB2.mono (by omega))
     have kw':w2.cell? ⟨w.heap.size+1,0,none⟩=some (.int .i64 wd):=(hB2.cell (p:=⟨w.heap.size+1,0,none⟩) z2).trans (keep (bw4 (bw0 _ _) _) kw)
     rw [← HF1.out] at kf'
     rw [← HF2.out] at kc'
     have HFN':=Lib.hid (HFN.out hm)
     clear hB2 kw kf kff kc kcf HCNT hm HFN HFX HF
     go_wp2_with fail
     go_roundw
     case rel=>exact ⟨j+1,by omega,by go_num,HFN',hB2',kw',kf',kff',kc',kcf'⟩
     case measure=>simp [intOf];omega
end Go.Proofs.YteepphiomcedfaaGreatDoor
