/- The walk of kingpostlaw50.GutterResults. -/
import Derived.Test.YteepphiomcedfaaGreatDoorWRes50
set_option maxRecDepth 100000
set_option linter.unusedVariables false
set_option linter.unusedSimpArgs false
set_option maxHeartbeats 6400000
namespace Go.Proofs.YteepphiomcedfaaGreatDoor
open Go.RowKit
theorem resultsLaw (T:List (List Int)) (v:Value) (s t:ByteArray) (n:Int) (w:World) (hG:Glo w) (hv:IsTable w v T) :
  Calls Tryz.prog 5 #[v,.string s,.string t,.int .i64 n] w (RetB (.bool true) w):=by
 have HV:=Lib.hid hv
 have HG:=Lib.hid hG
 have HGT:=Lib.hid (fun W (hB:Below w.heap.size w W)=>greatTable_ok T v W (hv.below hB))
 have HAW:=Lib.hid (fun W (hB:Below w.heap.size w W)=>awake50_ok W (hG.below hB))
 obtain ⟨a,cap,rfl,-,-,-⟩:=hv
 clear hG
 by_cases hsz:s.size≤20∧t.size≤20
 ·obtain ⟨h1,h2⟩:=hsz
  have F1:=Lib.hid (fun W (hB:Below w.heap.size w W)=>gflow_all s n W (HG.out.below hB) h1)
  have F2:=Lib.hid (fun W (hB:Below w.heap.size w W)=>rflow_all s n W (HG.out.below hB) h1)
  obtain ⟨fs,fc⟩:ByteArray × Int:=flowPair s n
  generalize flowPair s n=p at *
  obtain ⟨ps,pc⟩:=p
  clear fs fc
  have S1:=Lib.hid (fun (h12:T.length≤12) W (hB:Below w.heap.size w W)=>gsize_all T _ t W (HG.out.below hB) (HV.out.below hB) h12 h2)
  have S2:=Lib.hid (fun (h12:T.length≤12) W (hB:Below w.heap.size w W)=>rsize_all T _ t W (HG.out.below hB) (HV.out.below hB) h12 h2)
  have C1:=Lib.hid (fun (h12:T.length≤12) W (hB:Below w.heap.size w W)=>gutCheckT_ok T _ W (HV.out.below hB) h12)
  have C2:=Lib.hid (fun (h12:T.length≤12) W (hB:Below w.heap.size w W)=>refCheckT_ok T _ W (HV.out.below hB) h12)
  go_enter Tryz.func5,Tryz.ntmps5
  go_wp2_with fail
  refine (HGT.out _ (bw0 _ _)).mono ?_
  rintro e w1 ⟨b,rfl,HB12,rfl⟩
  cases b
  ·have h12:T.length≤12:=(HB12.out (by trivial)).1
   clear HB12 HGT
   go_wp2_with fail
   refine (F1.out _ (bw0 _ _)).mono ?_
   rintro e w2 ⟨rfl,hB2⟩
   go_wp2_with fail
   refine (F2.out _ hB2).mono ?_
   rintro e w3 ⟨rfl,hB3⟩
   have hb3:=below_trans' hB2 hB3
   clear hB2 hB3
   go_wp2_with fail
   refine (S1.out h12 _ hb3).mono ?_
   rintro e w4 ⟨x,c,rfl,HX,hB4⟩
   have hb4:=below_trans' hb3 hB4
   clear hb3 hB4
   go_wp2_with fail
   refine (S2.out h12 _ hb4).mono ?_
   rintro e w5 ⟨y,d,rfl,HY,hB5⟩
   have hb5:=below_trans' hb4 hB5
   obtain ⟨rfl,rfl⟩:=HX.out.uniq HY.out
   clear hb4 hB5 HX HY
   go_wp2_with fail
   refine (C1.out h12 _ hb5).mono ?_
   rintro e w6 ⟨c1,rfl,HC1,hB6⟩
   have hb6:=below_trans' hb5 hB6
   clear hb5 hB6
   go_wp2_with fail
   refine (C2.out h12 _ hb6).mono ?_
   rintro e w7 ⟨c2,rfl,HC2,hB7⟩
   have hb7:=below_trans' hb6 hB7
   obtain rfl:=HC1.out.uniq HC2.out
   clear hb6 hB7 HC1 HC2
   go_wp2_with fail
   refine (HAW.out _ hb7).mono ?_
   rintro e w8 ⟨rfl,hB8⟩
   have hb8:=below_trans' hb7 hB8
   clear hb7 hB8
   go_wp2_with fail
   go_ret
   exact ⟨rfl,hb8⟩
  ·clear HB12
   go_wp2_with fail
   refine (HAW.out _ (bw0 _ _)).mono ?_
   rintro e w2 ⟨rfl,hB2⟩
   go_wp2_with fail
   go_ret
   exact ⟨rfl,hB2⟩
 ·have hcase:(20:Int) < (s.size:Int)∨((s.size:Int)≤20∧(20:Int) < (t.size:Int)):=by omega
  clear hsz
  go_enter Tryz.func5,Tryz.ntmps5
  go_wp2_with fail
  refine (HGT.out _ (bw0 _ _)).mono ?_
  rintro e w1 ⟨b,rfl,HB12,rfl⟩
  clear HB12
  cases b
  ·rcases hcase with h|⟨h,h'⟩
   ·go_wp2_with fail
    refine (HAW.out _ (bw0 _ _)).mono ?_
    rintro e w2 ⟨rfl,hB2⟩
    go_wp2_with fail
    go_ret
    exact ⟨rfl,hB2⟩
   ·go_wp2_with fail
    refine (HAW.out _ (bw0 _ _)).mono ?_
    rintro e w2 ⟨rfl,hB2⟩
    go_wp2_with fail
    go_ret
    exact ⟨rfl,hB2⟩
  ·go_wp2_with fail
   refine (HAW.out _ (bw0 _ _)).mono ?_
   rintro e w2 ⟨rfl,hB2⟩
   go_wp2_with fail
   go_ret
   exact ⟨rfl,hB2⟩
end Go.Proofs.YteepphiomcedfaaGreatDoor
