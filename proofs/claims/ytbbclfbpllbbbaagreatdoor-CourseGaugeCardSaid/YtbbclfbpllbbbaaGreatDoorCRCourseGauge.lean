/- The row of CourseGauge. -/
import Derived.Test.YtbbclfbpllbbbaaGreatDoorCFCourseGauge
import Derived.Test.YtbbclfbpllbbbaaGreatDoorWWorld3
import Derived.Test.YtbbclfbpllbbbaaGreatDoorJ01
import Derived.Test.YtbbclfbpllbbbaaGreatDoorJ14
import Derived.Test.YtbbclfbpllbbbaaGreatDoorJ17
import Derived.WalkKit
import Derived.ProofKit
import Derived.OpenShut
import Derived.Deep.DeepHandedRow
set_option maxRecDepth 100000
set_option linter.unusedVariables false
set_option linter.unusedSimpArgs false
set_option maxHeartbeats 12800000
namespace Go.Proofs.YtbbclfbpllbbbaaGreatDoor.courseGauge
open Go.ChangeShapes Go.WideShapes Go.ChangeAt Go.RowKit
set_option linter.unusedVariables false
theorem own:ownKnob Tryz.prog.godebug=none:=by kernel_rfl
set_option maxRecDepth 100000 in
theorem contract (H:Type) (enc:TypeId × Value→H) (W:World) (base:Nat) (args:Array Value) (ds gs:List (DataW H)) (before:List MemPlace)
    (hval:∀ (j:Nat) t v,Tryz.f5.params[j]?=some t→args[j]?=some v→Value.okWide Tryz.prog W .any base t v)
    (hW:DataW.Whole enc Tryz.prog Tryz.f5.params.toList Rows.courseGaugeSpec.vars false W args.toList ds gs before) (hL:laidMetH Tryz.prog Rows.courseGaugeRow.laid W) (hsh:W.ShapedOpen Tryz.prog) :
    Calls Tryz.prog 5 args W fun e W'=>∃ v,e=.returned v∧Rows.courseGaugeSpec.post enc Tryz.prog Tryz.f5 false true false false W args v W':=by
  have hW0:=wor_of (show laidMet Tryz.prog Rows.courseGaugeRow.laid W from hL) hsh
  have hW':=hW
  obtain ⟨p,q,hA0,hV,rfl,hfz,hnd⟩:=hW
  have hA:DataW.TrodAll enc Tryz.prog W 0 (fun _=>true) true Tryz.f5.params.toList args.toList ds p:=hA0
  rw [Tryz.params5] at hA hval
  obtain ⟨v0,vs0,d0,ds0,p0,q0,hargs,rfl,rfl,h0,r0⟩:=trodAll_cons hA
  obtain ⟨v1,vs1,d1,ds1,p1,q1,rfl,rfl,rfl,h1,r1⟩:=trodAll_cons r0
  obtain ⟨rfl,rfl,rfl⟩:=trodAll_nil r1
  obtain rfl:args=#[v0,v1]:=by cases args;simp_all
  obtain ⟨rfl,rfl⟩:=trodVars_none hV
  obtain ⟨ta0,tb0,tc0,td0,rfl⟩:=open_tile (hval 0 49 v0 rfl rfl) h0
  obtain ⟨L1,hv1,hm1⟩:=open_surd (hval 1 25 v1 rfl rfl) h1
  refine (gaugeLaw ta0 tb0 tc0 td0 L1 v1 W hW0 hv1 hm1).mono fun e W' ⟨he,hB⟩=>?_
  subst he
  exact ⟨_,rfl,post_law hW' rfl (by rw [Tryz.params5];decide) rfl rfl rfl rfl hB⟩
theorem reads (os:Os) {H:Type} (enc:TypeId × Value→H):∃ places,DataW.whole enc Tryz.prog ((laidWorld os).forCall (fun _ _=>0) ⟨#[],#[.agg #[.int .i64 0,.int .i64 0,.int .i64 0,.int .i64 0],.slice none 0 0],[]⟩).memory Tryz.f5.params.toList Rows.courseGaugeSpec.vars false #[Value.agg #[.int .i64 0,.int .i64 0,.int .i64 0,.int .i64 0],Value.slice none 0 0].toList 8=some ([.agg [.lit (.int .i64 0),.lit (.int .i64 0),.lit (.int .i64 0),.lit (.int .i64 0)],.nil],[],places) :=
  ⟨[],by kernel_rfl⟩
set_option maxRecDepth 100000 in
theorem lifted (os:Os) (started:os.Started) (H:Type) (enc:TypeId × Value→H) (F:Stop.Interp) :
    ReturnsInHanded {} Tryz.checked os 5 .any ((OpenSpec.ofChange Rows.courseGaugeSpec).preRow enc Tryz.prog Tryz.f5 Rows.courseGaugeRow.domain false Rows.courseGaugeRow.laid) (((OpenSpec.ofChange Rows.courseGaugeSpec).at F).post enc Tryz.prog Tryz.f5 false true false false):=by
  obtain ⟨places,hx⟩:=reads os enc
  refine returnsInHanded_of_row (C:=Tryz.checked) (s:=OpenSpec.ofChange Rows.courseGaugeSpec) own started (by kernel_rfl) Tryz.func5
    (witness_row_at (enc:=enc) (C:=Tryz.checked) false (laidWorld os) #[.agg #[.int .i64 0,.int .i64 0,.int .i64 0,.int .i64 0],.slice none 0 0] rfl (by kernel_rfl) (by kernel_rfl) (by kernel_rfl)
      (OpenSpec.preRow_of_cond 8 hx (by kernel_rfl) (fun k hk=>by cases hk) (by kernel_rfl) (laid_metB os _))) ?_
  intro W base args ds gs before hval hW _ _ _ hL hsh _
  exact contract H enc W base args ds gs before hval hW hL hsh
theorem said:Rows.CourseGaugeSaid :=
  OpenClaim.holds_of_cond 5 Tryz.f5 rfl rfl rfl rfl rfl rfl rfl ⟨rfl,rfl,rfl,rfl,rfl⟩ rfl rfl rfl rfl rfl (by as_aux_lemma=>kernel_rfl) Tryz.func5 closed
    (of_decide_eq_true (by as_aux_lemma=>kernel_rfl)) (by unfold Func.isWrapper;first|(rw [if_pos (by decide +kernel)];kernel_rfl)|(rw [if_neg (by decide +kernel)];exact ⟨rfl,rfl⟩))
    (fun os started H enc _ F=>by rw [OpenClaim.pre_eq_preRow];exact lifted os started H enc F)
end Go.Proofs.YtbbclfbpllbbbaaGreatDoor.courseGauge
