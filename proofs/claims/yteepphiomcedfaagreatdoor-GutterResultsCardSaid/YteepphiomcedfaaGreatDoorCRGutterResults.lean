/- The row of GutterResults. -/
import Derived.Test.YteepphiomcedfaaGreatDoorCFGutterResults
import Derived.Test.YteepphiomcedfaaGreatDoorWWorld
import Derived.Test.YteepphiomcedfaaGreatDoorJ02
import Derived.Test.YteepphiomcedfaaGreatDoorWResultsLaw
import Derived.WalkKit
import Derived.ProofKit
import Derived.OpenShut
import Derived.Deep.DeepHandedRow
set_option maxRecDepth 100000
set_option linter.unusedVariables false
set_option linter.unusedSimpArgs false
set_option maxHeartbeats 6400000
namespace Go.Proofs.YteepphiomcedfaaGreatDoor.gutterResults
open Go.ChangeShapes Go.WideShapes Go.ChangeAt Go.RowKit
set_option linter.unusedVariables false
theorem own:ownKnob Tryz.prog.godebug=none:=by kernel_rfl
set_option maxRecDepth 100000 in
theorem contract (H:Type) (enc:TypeId × Value→H) (W:World) (base:Nat) (args:Array Value) (ds gs:List (DataW H)) (before:List MemPlace)
    (hval:∀ (j:Nat) t v,Tryz.f5.params[j]?=some t→args[j]?=some v→Value.okWide Tryz.prog W .any base t v)
    (hW:DataW.Whole enc Tryz.prog Tryz.f5.params.toList Rows.gutterResultsSpec.vars false W args.toList ds gs before) (hL:laidMetH Tryz.prog Rows.gutterResultsRow.laid W) (hsh:W.ShapedOpen Tryz.prog) :
    Calls Tryz.prog 5 args W fun e W'=>∃ v,e=.returned v∧Rows.gutterResultsSpec.post enc Tryz.prog Tryz.f5 false true false false W args v W':=by
  have hG:=glo_of hL hsh
  have hW':=hW
  obtain ⟨p,q,hA0,hV,rfl,hfz,hnd⟩:=hW
  have hA:DataW.TrodAll enc Tryz.prog W 0 (fun _=>true) true Tryz.f5.params.toList args.toList ds p:=hA0
  rw [Tryz.params5] at hA hval
  obtain ⟨v0,vs0,d0,ds0,p0,q0,hargs,rfl,rfl,h0,r0⟩:=trodAll_cons hA
  obtain ⟨v1,vs1,d1,ds1,p1,q1,rfl,rfl,rfl,h1,r1⟩:=trodAll_cons r0
  obtain ⟨v2,vs2,d2,ds2,p2,q2,rfl,rfl,rfl,h2,r2⟩:=trodAll_cons r1
  obtain ⟨v3,vs3,d3,ds3,p3,q3,rfl,rfl,rfl,h3,r3⟩:=trodAll_cons r2
  obtain ⟨rfl,rfl,rfl⟩:=trodAll_nil r3
  obtain rfl:args=#[v0,v1,v2,v3]:=by cases args;simp_all
  obtain ⟨rfl,rfl⟩:=trodVars_none hV
  obtain ⟨T0,ht0⟩:=open_table (hval 0 46 v0 rfl rfl) h0
  obtain ⟨s1,rfl,rfl,rfl,w1⟩:=Go.ChangeMaps.open_string Tryz.underlying22 (hval 1 22 v1 rfl rfl) h1
  obtain ⟨s2,rfl,rfl,rfl,w2⟩:=Go.ChangeMaps.open_string Tryz.underlying22 (hval 2 22 v2 rfl rfl) h2
  obtain ⟨a3,rfl,rfl,rfl,w3⟩:=open_int Tryz.underlying3 (hval 3 3 v3 rfl rfl) h3
  have b3 : -9223372036854775808≤a3∧a3≤9223372036854775807:=by simpa [Lit.wf,IntKind.min,IntKind.max,IntKind.signed,IntKind.bits] using w3
  refine (resultsLaw T0 v0 s1 s2 a3 W hG ht0).mono fun e W' ⟨he,hB⟩=>?_
  subst he
  exact ⟨_,rfl,post_law hW' rfl (by rw [Tryz.params5];decide) rfl rfl rfl rfl hB⟩
theorem reads (os:Os) {H:Type} (enc:TypeId × Value→H):∃ places,DataW.whole enc Tryz.prog ((laidWorld os).forCall (fun _ _=>0) ⟨#[],#[.slice none 0 0,.string ⟨#[]⟩,.string ⟨#[]⟩,.int .i64 0],[]⟩).memory Tryz.f5.params.toList Rows.gutterResultsSpec.vars false #[Value.slice none 0 0,Value.string ⟨#[]⟩,Value.string ⟨#[]⟩,Value.int .i64 0].toList 8=some ([.nil,.lit (.string []),.lit (.string []),.lit (.int .i64 0)],[],places) :=
  ⟨[],by kernel_rfl⟩
set_option maxRecDepth 100000 in
theorem lifted (os:Os) (started:os.Started) (H:Type) (enc:TypeId × Value→H) (F:Stop.Interp) :
    ReturnsInHanded {} Tryz.checked os 5 .any ((OpenSpec.ofChange Rows.gutterResultsSpec).preRow enc Tryz.prog Tryz.f5 Rows.gutterResultsRow.domain false Rows.gutterResultsRow.laid) (((OpenSpec.ofChange Rows.gutterResultsSpec).at F).post enc Tryz.prog Tryz.f5 false true false false):=by
  obtain ⟨places,hx⟩:=reads os enc
  refine returnsInHanded_of_row (C:=Tryz.checked) (s:=OpenSpec.ofChange Rows.gutterResultsSpec) own started (by kernel_rfl) Tryz.func5
    (witness_row_at (enc:=enc) (C:=Tryz.checked) false (laidWorld os) #[.slice none 0 0,.string ⟨#[]⟩,.string ⟨#[]⟩,.int .i64 0] rfl (by kernel_rfl) (by kernel_rfl) (by kernel_rfl)
      (OpenSpec.preRow_of_cond 8 hx (by kernel_rfl) (fun k hk=>by cases hk) (by kernel_rfl) (laid_met os _))) ?_
  intro W base args ds gs before hval hW _ _ _ hL hsh _
  exact contract H enc W base args ds gs before hval hW hL hsh
theorem said:Rows.GutterResultsSaid :=
  OpenClaim.holds_of_cond 5 Tryz.f5 rfl rfl rfl rfl rfl rfl rfl ⟨rfl,rfl,rfl,rfl,rfl⟩ rfl rfl rfl rfl rfl (by as_aux_lemma=>kernel_rfl) Tryz.func5 closed
    (of_decide_eq_true (by as_aux_lemma=>kernel_rfl)) (by unfold Func.isWrapper;first|(rw [if_pos (by decide +kernel)];kernel_rfl)|(rw [if_neg (by decide +kernel)];exact ⟨rfl,rfl⟩))
    (fun os started H enc _ F=>by rw [OpenClaim.pre_eq_preRow];exact lifted os started H enc F)
end Go.Proofs.YteepphiomcedfaaGreatDoor.gutterResults
