/- Joined texts: WStart. -/
import Derived.Test.YtbbclfbpllbbbaaGreatDoorJ11
set_option maxRecDepth 100000
set_option linter.unusedVariables false
set_option linter.unusedSimpArgs false
set_option maxHeartbeats 12800000
namespace Go.Proofs.YtbbclfbpllbbbaaGreatDoor
open Go.RowKit Go.Shelf
def RetT1 (L:TTexts) (w:World) (e:Ending) (w':World):Prop:=∃ u,e=.returned u∧IsTerms w' u L∧Below w.heap.size w w'
theorem CBox.below {w w':World} {b:Nat} (h:CBox w b) (hB:Below w.heap.size w w'):CBox w' b:=BoxT1.below h hB
theorem isTerms_one {w:World} {b:Nat} {x y:ByteArray} {t:TypeId} (h:BoxT2 t w b (.string x) (.string y)):IsTerms w (.slice (some ⟨b,0,none⟩) 1 1) [(x,y)] :=
 ⟨_,1,rfl,Nat.le_refl _,fun _=>⟨b,0,rfl,fun k hk=>by
  obtain rfl:k=0:=by simpa using hk
  exact ⟨h.c0,h.c1⟩⟩⟩
theorem one_list:(⟨#[49]⟩:ByteArray).data.toList=ratText 1:=by decide +kernel
theorem isRaw_one {x y:ByteArray} {p q:Rat} (h1:x.data.toList=ratText p) (h2:y.data.toList=ratText q):IsRaw [(x,y)] [(p,q)]:=by
 refine ⟨rfl,fun k hk=>?_⟩
 obtain rfl:k=0:=by simpa using hk
 exact ⟨h1,h2⟩
theorem root_ok (b:Nat) (q:Rat) (n:Nat) (s:ByteArray) (w:World) (hG:Glo w) (hP:Pri w) (hc:CBox w b) (hs:s.data.toList=ratText q) (hq:Sz 90 q) (h0:0 < q.num) (h1:OneC [(1,1 / q)] n) :
  Calls Tryz.prog 50 #[.pointer (some ⟨b,0,none⟩),.string s] w (RetT1 (oneL (gsum [(1,1 / q)]) n) w):=by
 have H1:=Lib.hid (RDiv_ok (a:=1) (b:=90) ⟨#[49]⟩ s w hG one_list (by unfold Sz;decide) hs hq (by decide) h0)
 have H2:=Lib.hid (fun (x:ByteArray) W hc=>num_ok b x W hc)
 have H3:=Lib.hid (fun (x:ByteArray) (u:Value) W hG hP (hx:x.data.toList=ratText (1 / q)) (hu:IsTerms W u [((⟨#[49]⟩:ByteArray),x)])=>Make_ok [(1,1 / q)] n [((⟨#[49]⟩:ByteArray),x)] u W hG hP h1 (isRaw_one one_list hx) hu)
 have H4:=Lib.hid (fun a l c W hc=>keep_ok b a l c W hc)
 have HG:=Lib.hid hG
 have HP:=Lib.hid hP
 have HC:=Lib.hid hc
 generalize oneL (gsum [(1,1 / q)]) n=L at *
 clear hG hP hc hs hq h0 h1
 go_enter Tryz.func50,Tryz.ntmps50
 go_wp2_with fail
 refine H1.out.mono ?_
 rintro e w1 ⟨x,hx,rfl,hB1⟩
 have HX:=Lib.hid hx
 clear hx
 go_wp2_with fail
 refine (H2.out x _ (HC.out.below hB1)).mono ?_
 rintro e w2 ⟨rfl,hB2⟩
 have hb2:=below_trans' hB1 hB2
 clear hB2 hB1
 go_wp2_with fail
 have hb3:Below w.heap.size w (w2.alloc (.cells #[.string ⟨#[49]⟩,.string x] 70)):=bw4 hb2 _
 have y0:BoxT2 70 (w2.alloc (.cells #[.string ⟨#[49]⟩,.string x] 70)) w2.heap.size (.string ⟨#[49]⟩) (.string x):=BoxT2.new rfl
 generalize w2.alloc (.cells #[.string ⟨#[49]⟩,.string x] 70)=W3 at *
 refine (H3.out x _ W3 (HG.out.below hb3) (HP.out.below hb3) HX.out (isTerms_one y0)).mono ?_
 rintro e w4 ⟨u,rfl,hu,hB4⟩
 have hb4:=below_trans' hb3 hB4
 have HU:=Lib.hid hu
 obtain ⟨ua,uc,rfl,_⟩:=hu
 clear hB4 hb3 hb2
 go_wp2_with fail
 refine (H4.out _ _ _ _ (HC.out.below hb4)).mono ?_
 rintro e w5 ⟨rfl,hB5⟩
 have hb5:=below_trans' hb4 hB5
 have HU2:=Lib.hid (HU.out.below hB5)
 clear hB5 hb4
 go_wp2_with fail
 go_ret
 exact ⟨_,rfl,HU2.out,hb5⟩
theorem cPlus_ok (b:Nat) (a:Rat) (n:Nat) (s:ByteArray) (T:Terms) (L:TTexts) (v:Value) (w:World) (hG:Glo w) (hP:Pri w) (hc:CBox w b) (hs:s.data.toList=ratText a) (ha:OneC [(a,1)] 1) (hv:IsTerms w v L) (hT:SurdIs L T) (h1:OneC (toQ (oneT a 1)++toQ T) n) :
  Calls Tryz.prog 54 #[.pointer (some ⟨b,0,none⟩),.string s,v] w (RetT1 (oneL (gsum (toQ (oneT a 1)++toQ T)) n) w):=by
 have hg:gsum [(a,1)]=a:=by
  unfold gsum
  simp only [List.foldl_cons,List.foldl_nil,Rat.zero_add]
  unfold tv nzB
  by_cases h:a=0
  ·simp [h]
  ·rw [if_pos (by simp [h]),normQ_one,Rat.mul_one]
 have hiA:=ha.is
 rw [hg] at hiA
 have H3:=Lib.hid (fun (u:Value) W hG hP (hu:IsTerms W u [(s,(⟨#[49]⟩:ByteArray))])=>(by rw [← hg];exact Make_ok [(a,1)] 1 [(s,(⟨#[49]⟩:ByteArray))] u W hG hP ha (isRaw_one hs one_list) hu:Calls Tryz.prog 15 #[u] W (RetSd (oneL a 1) W)))
 have H4:=Lib.hid (fun a l c W hc=>keep_ok b a l c W hc)
 have H5:=Lib.hid (fun (u:Value) W hB (hu:IsTerms W u (oneL a 1))=>Add_ok (oneT a 1) T n (oneL a 1) L u v W (hG.below hB) (hP.below hB) hu (hv.below hB) hiA hT h1)
 have HG:=Lib.hid hG
 have HP:=Lib.hid hP
 have HC:=Lib.hid hc
 obtain ⟨va,vc,rfl,_⟩:=hv
 generalize oneL (gsum (toQ (oneT a 1)++toQ T)) n=R at *
 clear hG hP hc hs ha hT h1 hg hiA
 go_enter Tryz.func54,Tryz.ntmps54
 go_wp2_with fail
 have hb3:Below w.heap.size w (w.alloc (.cells #[.string s,.string ⟨#[49]⟩] 70)):=bw4 (bw0 _ _) _
 have y0:BoxT2 70 (w.alloc (.cells #[.string s,.string ⟨#[49]⟩] 70)) w.heap.size (.string s) (.string ⟨#[49]⟩):=BoxT2.new rfl
 generalize w.alloc (.cells #[.string s,.string ⟨#[49]⟩] 70)=W3 at *
 refine (H3.out _ W3 (HG.out.below hb3) (HP.out.below hb3) (isTerms_one y0)).mono ?_
 rintro e w4 ⟨u,rfl,hu,hB4⟩
 have hb4:=below_trans' hb3 hB4
 have HU:=Lib.hid hu
 obtain ⟨ua,uc,rfl,_⟩:=hu
 clear hB4 hb3 y0
 go_wp2_with fail
 refine (H4.out _ _ _ _ (HC.out.below hb4)).mono ?_
 rintro e w5 ⟨rfl,hB5⟩
 have hb5:=below_trans' hb4 hB5
 have HU2:=Lib.hid (HU.out.below hB5)
 clear hB5 hb4
 go_wp2_with fail
 refine (H5.out _ _ hb5 HU2.out).mono ?_
 rintro e w6 ⟨x,rfl,hx,hB6⟩
 have hb6:=below_trans' hb5 hB6
 have HX:=Lib.hid hx
 obtain ⟨xa,xc,rfl,_⟩:=hx
 clear hB6 hb5
 go_wp2_with fail
 refine (H4.out _ _ _ _ (HC.out.below hb6)).mono ?_
 rintro e w7 ⟨rfl,hB7⟩
 have hb7:=below_trans' hb6 hB7
 have HX2:=Lib.hid (HX.out.below hB7)
 clear hB7 hb6
 go_wp2_with fail
 go_ret
 exact ⟨_,rfl,HX2.out,hb7⟩
def IsQ (s:ByteArray) (q:Rat):Prop:=s.data.toList=ratText q∧Sz 90 q
theorem vList_ok (x y z:ByteArray) (w:World) :
  Calls Tryz.prog 131 #[.agg #[.string x,.string y,.string z]] w (RetB (.agg #[.string x,.string y,.string z]) w):=by
 go_enter Tryz.func131,Tryz.ntmps131
 go_wp2_with fail
 refine bodyPost_ret (v:=.agg #[.string x,.string y,.string z]) (by simp [results,Tryz.results131,go_sem]) rfl ?_
 exact ⟨rfl,qbl⟩
theorem spot_index (x y z:ByteArray) (W:World):(Instr.index 206 (.agg #[.string x,.string y,.string z]) (.int .i64 0)).run Tryz.prog W=.ok (.string x) W∧(Instr.index 206 (.agg #[.string x,.string y,.string z]) (.int .i64 1)).run Tryz.prog W=.ok (.string y) W∧(Instr.index 206 (.agg #[.string x,.string y,.string z]) (.int .i64 2)).run Tryz.prog W=.ok (.string z) W:=by
 have hu:=Tryz.underlying206
 have hs:=Tryz.sizeOf34
 have ha:=Tryz.isAgg34
 refine ⟨?_,?_,?_⟩<;>(unfold Instr.index;simp [go_sem,hu,hs,ha,asIntOf,part])
theorem vCheck_ok (x y z:ByteArray) (p q r:Rat) (w:World) (hG:Glo w) (hx:IsQ x p) (hy:IsQ y q) (hz:IsQ z r) :
  Calls Tryz.prog 77 #[.agg #[.string x,.string y,.string z]] w (RetB (.int .i64 0) w):=by
 have HX:=Lib.hid (fun W hG=>RCheck_ok x W hG hx.1 hx.2 (by decide))
 have HY:=Lib.hid (fun W hG=>RCheck_ok y W hG hy.1 hy.2 (by decide))
 have HZ:=Lib.hid (fun W hG=>RCheck_ok z W hG hz.1 hz.2 (by decide))
 have HV:=Lib.hid (fun W=>vList_ok x y z W)
 have hi0:=fun W=>(spot_index x y z W).1
 have hi1:=fun W=>(spot_index x y z W).2.1
 have hi2:=fun W=>(spot_index x y z W).2.2
 have HG:=Lib.hid hG
 clear hG hx hy hz
 go_enter Tryz.func77,Tryz.ntmps77
 go_wp2_with fail
 refine (HV.out _).mono ?_
 rintro e w1 ⟨rfl,hB1⟩
 have hb1:Below w.heap.size w w1:=below_trans' qbl hB1
 clear hB1
 go_wp2_with fail
 go_loopw [8] (fun i wr=>Below w.heap.size w wr∧(i=.int .i64 0∨i=.int .i64 1∨i=.int .i64 2∨i=.int .i64 3)) (fun i _=>3 - (intOf i).toNat)
 case atStart=>exact ⟨hb1,.inl rfl⟩
 case round =>
  obtain ⟨hB,rfl|rfl|rfl|rfl⟩:=hrel
  ·go_wp2_with fail
   refine (HX.out _ (HG.out.below hB)).mono ?_
   rintro e w2 ⟨rfl,hB2⟩
   have hb2:=below_trans' hB hB2
   go_wp2_with fail
   go_roundw
   case rel=>exact ⟨hb2,.inr (.inl rfl)⟩
   case measure=>simp [intOf]
  ·go_wp2_with fail
   refine (HY.out _ (HG.out.below hB)).mono ?_
   rintro e w2 ⟨rfl,hB2⟩
   have hb2:=below_trans' hB hB2
   go_wp2_with fail
   go_roundw
   case rel=>exact ⟨hb2,.inr (.inr (.inl rfl))⟩
   case measure=>simp [intOf]
  ·go_wp2_with fail
   refine (HZ.out _ (HG.out.below hB)).mono ?_
   rintro e w2 ⟨rfl,hB2⟩
   have hb2:=below_trans' hB hB2
   go_wp2_with fail
   go_roundw
   case rel=>exact ⟨hb2,.inr (.inr (.inr rfl))⟩
   case measure=>simp [intOf]
  ·go_wp2_with fail
   go_ret
   exact ⟨rfl,hB⟩
theorem text0:ratText 0=[48]:=by decide +kernel
theorem isQ_zero {s:ByteArray} (h:s.data.toList=[48]):IsQ s 0:=⟨by rw [h,text0],by unfold Sz;decide +kernel⟩
theorem start_ok (fx fy fz ax ay az:ByteArray) (px py pz qx qy:Rat) (T S:Terms) (L M:TTexts) (u v:Value) (w:World) (hG:Glo w) (hP:Pri w) (h1:IsQ fx px) (h2:IsQ fy py) (h3:IsQ fz pz) (h4:IsQ ax qx) (h5:IsQ ay qy) (h6:az.data.toList=[48])
  (hu:IsTerms w u L) (hv:IsTerms w v M) (hT:SurdIs L T) (hS:SurdIs M S) (hM:M.length≤1) (h0:¬ (qx=0∧qy=0)) :
  Calls Tryz.prog 47 #[.agg #[.string fx,.string fy,.string fz],.agg #[.string ax,.string ay,.string az],u,v] w (RetB (.int .i64 0) w):=by
 have H1:=Lib.hid (fun W hG=>vCheck_ok fx fy fz px py pz W hG h1 h2 h3)
 have H2:=Lib.hid (fun W hG=>vCheck_ok ax ay az qx qy 0 W hG h4 h5 (isQ_zero h6))
 have H3:=Lib.hid (fun W (hB:Below w.heap.size w W)=>sCheck_yes L T u W (hG.below hB) (hP.below hB) (hu.below hB) hT)
 have H4:=Lib.hid (fun W (hB:Below w.heap.size w W)=>sCheck_yes M S v W (hG.below hB) (hP.below hB) (hv.below hB) hS)
 have hz:(az.toList == [48])=true:=by rw [Lib.toList_data,h6];decide
 have hx:(ax.toList == [48])=decide (qx=0):=by rw [Lib.toList_data,h4.1,text_eq0]
 have hy:(ay.toList == [48])=decide (qy=0):=by rw [Lib.toList_data,h5.1,text_eq0]
 have hMI:¬ (1:Int) < (M.length:Int):=by omega
 have HG:=Lib.hid hG
 obtain ⟨ua,uc,rfl,_⟩:=hu
 obtain ⟨va,vc,rfl,_⟩:=hv
 clear hG hP h1 h2 h3 h4 h5 h6 hT hS hM
 go_enter Tryz.func47,Tryz.ntmps47
 go_wp2_with fail
 have hb0:Below w.heap.size w ((w.alloc (.cells #[.string fx,.string fy,.string fz] 37)).alloc (.cells #[.string ax,.string ay,.string az] 37)):=qbl
 have c0:((w.alloc (.cells #[.string fx,.string fy,.string fz] 37)).alloc (.cells #[.string ax,.string ay,.string az] 37)).cell? ⟨w.heap.size+1,0,none⟩=some (.string ax):=by simp [go_sem]
 have c1:((w.alloc (.cells #[.string fx,.string fy,.string fz] 37)).alloc (.cells #[.string ax,.string ay,.string az] 37)).cell? ⟨w.heap.size+1,1,none⟩=some (.string ay):=by simp [go_sem]
 have c2:((w.alloc (.cells #[.string fx,.string fy,.string fz] 37)).alloc (.cells #[.string ax,.string ay,.string az] 37)).cell? ⟨w.heap.size+1,2,none⟩=some (.string az):=by simp [go_sem]
 generalize (w.alloc (.cells #[.string fx,.string fy,.string fz] 37)).alloc (.cells #[.string ax,.string ay,.string az] 37)=W0 at *
 refine (H1.out _ (HG.out.below hb0)).mono ?_
 rintro e w1 ⟨rfl,hB1⟩
 have hb1:=below_trans' hb0 hB1
 replace c0:=keep hB1 c0
 replace c1:=keep hB1 c1
 replace c2:=keep hB1 c2
 clear hB1 hb0 H1
 go_wp2_with fail
 refine (H2.out _ (HG.out.below hb1)).mono ?_
 rintro e w2 ⟨rfl,hB2⟩
 have hb2:=below_trans' hb1 hB2
 replace c0:=keep hB2 c0
 replace c1:=keep hB2 c1
 replace c2:=keep hB2 c2
 clear hB2 hb1 H2
 go_wp2_with fail
 refine (H3.out _ hb2).mono ?_
 rintro e w3 ⟨rfl,hB3⟩
 have hb3:=below_trans' hb2 hB3
 replace c0:=keep hB3 c0
 replace c1:=keep hB3 c1
 replace c2:=keep hB3 c2
 clear hB3 hb2 H3
 go_wp2_with fail
 refine (H4.out _ hb3).mono ?_
 rintro e w4 ⟨rfl,hB4⟩
 have hb4:=below_trans' hb3 hB4
 replace c0:=keep hB4 c0
 replace c1:=keep hB4 c1
 replace c2:=keep hB4 c2
 clear hB4 hb3 H4
 by_cases g1:qx=0
 ·have g2:¬ qy=0:=fun h=>h0 ⟨g1,h⟩
  rw [decide_eq_true g1] at hx
  rw [decide_eq_false g2] at hy
  clear g1 g2 h0
  go_wp2_with fail
  go_ret
  exact ⟨rfl,hb4⟩
 ·rw [decide_eq_false g1] at hx
  clear g1 h0 hy
  go_wp2_with fail
  go_ret
  exact ⟨rfl,hb4⟩
end Go.Proofs.YtbbclfbpllbbbaaGreatDoor
