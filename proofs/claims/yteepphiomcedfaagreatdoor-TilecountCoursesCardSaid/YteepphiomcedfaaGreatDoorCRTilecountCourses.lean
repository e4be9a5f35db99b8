/- The row of TilecountCourses. -/
import Derived.Test.YteepphiomcedfaaGreatDoorCFTilecountCourses
import Derived.Test.YteepphiomcedfaaGreatDoorWWorld
import Derived.Test.YteepphiomcedfaaGreatDoorJ02
import Derived.Test.YteepphiomcedfaaGreatDoorJ31
import Derived.WalkKit
import Derived.ProofKit
import Derived.OpenShut
import Derived.Deep.DeepHandedRow
set_option maxRecDepth 100000
set_option linter.unusedVariables false
set_option linter.unusedSimpArgs false
set_option maxHeartbeats 6400000
namespace Go.Proofs.YteepphiomcedfaaGreatDoor.tilecountCourses
open Go.ChangeShapes Go.WideShapes Go.ChangeAt Go.RowKit
set_option linter.unusedVariables false
theorem own:ownKnob Tryz.prog.godebug=none:=by kernel_rfl
set_option maxRecDepth 100000 in
theorem contract (H:Type) (enc:TypeId × Value→H) (W:World) (base:Nat) (args:Array Value) (ds gs:List (DataW H)) (before:List MemPlace)
    (hval:∀ (j:Nat) t v,Tryz.f3.params[j]?=some t→args[j]?=some v→Value.okWide Tryz.prog W .any base t v)
    (hW:DataW.Whole enc Tryz.prog Tryz.f3.params.toList Rows.tilecountCoursesSpec.vars false W args.toList ds gs before) (hL:laidMetH Tryz.prog Rows.tilecountCoursesRow.laid W) (hsh:W.ShapedOpen Tryz.prog) :
    Calls Tryz.prog 3 args W fun e W'=>∃ v,e=.returned v∧Rows.tilecountCoursesSpec.post enc Tryz.prog Tryz.f3 false true false false W args v W':=by
  have hG:=glo_of hL hsh
  have hW':=hW
  obtain ⟨p,q,hA0,hV,rfl,hfz,hnd⟩:=hW
  have hA:DataW.TrodAll enc Tryz.prog W 0 (fun _=>true) true Tryz.f3.params.toList args.toList ds p:=hA0
  rw [Tryz.params3] at hA hval
  obtain ⟨v0,vs0,d0,ds0,p0,q0,hargs,rfl,rfl,h0,r0⟩:=trodAll_cons hA
  obtain ⟨v1,vs1,d1,ds1,p1,q1,rfl,rfl,rfl,h1,r1⟩:=trodAll_cons r0
  obtain ⟨v2,vs2,d2,ds2,p2,q2,rfl,rfl,rfl,h2,r2⟩:=trodAll_cons r1
  obtain ⟨v3,vs3,d3,ds3,p3,q3,rfl,rfl,rfl,h3,r3⟩:=trodAll_cons r2
  obtain ⟨v4,vs4,d4,ds4,p4,q4,rfl,rfl,rfl,h4,r4⟩:=trodAll_cons r3
  obtain ⟨rfl,rfl,rfl⟩:=trodAll_nil r4
  obtain rfl:args=#[v0,v1,v2,v3,v4]:=by cases args;simp_all
  obtain ⟨rfl,rfl⟩:=trodVars_none hV
  obtain ⟨lo0,hi0,S0,hc0⟩:=open_course (hval 0 25 v0 rfl rfl) h0
  obtain ⟨a1,rfl,rfl,rfl,w1⟩:=open_int Tryz.underlying3 (hval 1 3 v1 rfl rfl) h1
  have b1 : -9223372036854775808≤a1∧a1≤9223372036854775807:=by simpa [Lit.wf,IntKind.min,IntKind.max,IntKind.signed,IntKind.bits] using w1
  obtain ⟨a2,rfl,rfl,rfl,w2⟩:=open_int Tryz.underlying3 (hval 2 3 v2 rfl rfl) h2
  have b2 : -9223372036854775808≤a2∧a2≤9223372036854775807:=by simpa [Lit.wf,IntKind.min,IntKind.max,IntKind.signed,IntKind.bits] using w2
  obtain ⟨a3,rfl,rfl,rfl,w3⟩:=open_int Tryz.underlying3 (hval 3 3 v3 rfl rfl) h3
  have b3 : -9223372036854775808≤a3∧a3≤9223372036854775807:=by simpa [Lit.wf,IntKind.min,IntKind.max,IntKind.signed,IntKind.bits] using w3
  obtain ⟨a4,rfl,rfl,rfl⟩:=open_bool Tryz.underlying4 (hval 4 4 v4 rfl rfl) h4
  refine (coursesLaw lo0 hi0 S0 v0 a1 a2 a3 a4 W hG hc0).mono fun e W' ⟨he,hB⟩=>?_
  subst he
  exact ⟨_,rfl,post_law hW' rfl (by rw [Tryz.params3];decide) rfl rfl rfl rfl hB⟩
theorem reads (os:Os) {H:Type} (enc:TypeId × Value→H):∃ places,DataW.whole enc Tryz.prog ((laidWorld os).forCall (fun _ _=>0) ⟨#[],#[.agg #[.string ⟨#[]⟩,.string ⟨#[]⟩,.slice none 0 0],.int .i64 0,.int .i64 0,.int .i64 0,.bool false],[]⟩).memory Tryz.f3.params.toList Rows.tilecountCoursesSpec.vars false #[Value.agg #[.string ⟨#[]⟩,.string ⟨#[]⟩,.slice none 0 0],Value.int .i64 0,Value.int .i64 0,Value.int .i64 0,Value.bool false].toList 8=some ([.agg [.lit (.string []),.lit (.string []),.nil],.lit (.int .i64 0),.lit (.int .i64 0),.lit (.int .i64 0),.lit (.bool false)],[],places) :=
  ⟨[],by kernel_rfl⟩
set_option maxRecDepth 100000 in
theorem lifted (os:Os) (started:os.Started) (H:Type) (enc:TypeId × Value→H) (F:Stop.Interp) :
    ReturnsInHanded {} Tryz.checked os 3 .any ((OpenSpec.ofChange Rows.tilecountCoursesSpec).preRow enc Tryz.prog Tryz.f3 Rows.tilecountCoursesRow.domain false Rows.tilecountCoursesRow.laid) (((OpenSpec.ofChange Rows.tilecountCoursesSpec).at F).post enc Tryz.prog Tryz.f3 false true false false):=by
  obtain ⟨places,hx⟩:=reads os enc
  refine returnsInHanded_of_row (C:=Tryz.checked) (s:=OpenSpec.ofChange Rows.tilecountCoursesSpec) own started (by kernel_rfl) Tryz.func3
    (witness_row_at (enc:=enc) (C:=Tryz.checked) false (laidWorld os) #[.agg #[.string ⟨#[]⟩,.string ⟨#[]⟩,.slice none 0 0],.int .i64 0,.int .i64 0,.int .i64 0,.bool false] rfl (by kernel_rfl) (by kernel_rfl) (by kernel_rfl)
      (OpenSpec.preRow_of_cond 8 hx (by kernel_rfl) (fun k hk=>by cases hk) (by kernel_rfl) (laid_met os _))) ?_
  intro W base args ds gs before hval hW _ _ _ hL hsh _
  exact contract H enc W base args ds gs before hval hW hL hsh
theorem said:Rows.TilecountCoursesSaid :=
  OpenClaim.holds_of_cond 3 Tryz.f3 rfl rfl rfl rfl rfl rfl rfl ⟨rfl,rfl,rfl,rfl,rfl⟩ rfl rfl rfl rfl rfl (by as_aux_lemma=>kernel_rfl) Tryz.func3 closed
    (of_decide_eq_true (by as_aux_lemma=>kernel_rfl)) (by unfold Func.isWrapper;first|(rw [if_pos (by decide +kernel)];kernel_rfl)|(rw [if_neg (by decide +kernel)];exact ⟨rfl,rfl⟩))
    (fun os started H enc _ F=>by rw [OpenClaim.pre_eq_preRow];exact lifted os started H enc F)
end Go.Proofs.YteepphiomcedfaaGreatDoor.tilecountCourses
