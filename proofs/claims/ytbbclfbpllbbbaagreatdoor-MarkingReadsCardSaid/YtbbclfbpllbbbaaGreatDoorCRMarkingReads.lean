/- The row of MarkingReads. -/
import Derived.Test.YtbbclfbpllbbbaaGreatDoorCFMarkingReads
import Derived.Test.YtbbclfbpllbbbaaGreatDoorWWorld3
import Derived.Test.YtbbclfbpllbbbaaGreatDoorJ01
import Derived.Test.YtbbclfbpllbbbaaGreatDoorJ13
import Derived.WalkKit
import Derived.ProofKit
import Derived.OpenShut
import Derived.Deep.DeepHandedRow
set_option maxRecDepth 100000
set_option linter.unusedVariables false
set_option linter.unusedSimpArgs false
set_option maxHeartbeats 12800000
namespace Go.Proofs.YtbbclfbpllbbbaaGreatDoor.markingReads
open Go.ChangeShapes Go.WideShapes Go.ChangeAt Go.RowKit
set_option linter.unusedVariables false
theorem own:ownKnob Tryz.prog.godebug=none:=by kernel_rfl
set_option maxRecDepth 100000 in
theorem contract (H:Type) (enc:TypeId × Value→H) (W:World) (base:Nat) (args:Array Value) (ds gs:List (DataW H)) (before:List MemPlace)
    (hval:∀ (j:Nat) t v,Tryz.f3.params[j]?=some t→args[j]?=some v→Value.okWide Tryz.prog W .any base t v)
    (hW:DataW.Whole enc Tryz.prog Tryz.f3.params.toList Rows.markingReadsSpec.vars false W args.toList ds gs before) (hL:laidMetH Tryz.prog Rows.markingReadsRow.laid W) (hsh:W.ShapedOpen Tryz.prog) :
    Calls Tryz.prog 3 args W fun e W'=>∃ v,e=.returned v∧Rows.markingReadsSpec.post enc Tryz.prog Tryz.f3 false true false false W args v W':=by
  obtain ⟨hG,hP⟩:=gloA_of hL hsh
  have hW':=hW
  obtain ⟨p,q,hA0,hV,rfl,hfz,hnd⟩:=hW
  have hA:DataW.TrodAll enc Tryz.prog W 0 (fun _=>true) true Tryz.f3.params.toList args.toList ds p:=hA0
  rw [Tryz.params3] at hA hval
  obtain ⟨v0,vs0,d0,ds0,p0,q0,hargs,rfl,rfl,h0,r0⟩:=trodAll_cons hA
  obtain ⟨v1,vs1,d1,ds1,p1,q1,rfl,rfl,rfl,h1,r1⟩:=trodAll_cons r0
  obtain ⟨rfl,rfl,rfl⟩:=trodAll_nil r1
  obtain rfl:args=#[v0,v1]:=by cases args;simp_all
  obtain ⟨rfl,rfl⟩:=trodVars_none hV
  obtain ⟨L0,hv0,hm0⟩:=open_terms (hval 0 22 v0 rfl rfl) h0
  obtain ⟨s1,rfl,rfl,rfl,w1⟩:=Go.ChangeMaps.open_string Tryz.underlying9 (hval 1 9 v1 rfl rfl) h1
  refine (readsLaw L0 v0 s1 W hG hP hv0 hm0 w1).mono fun e W' ⟨he,hB⟩=>?_
  subst he
  exact ⟨_,rfl,post_law hW' rfl (by rw [Tryz.params3];decide) rfl rfl rfl rfl hB⟩
theorem reads (os:Os) {H:Type} (enc:TypeId × Value→H):∃ places,DataW.whole enc Tryz.prog ((laidWorld os).forCall (fun _ _=>0) ⟨#[],#[.slice none 0 0,.string ⟨#[]⟩],[]⟩).memory Tryz.f3.params.toList Rows.markingReadsSpec.vars false #[Value.slice none 0 0,Value.string ⟨#[]⟩].toList 8=some ([.nil,.lit (.string [])],[],places) :=
  ⟨[],by kernel_rfl⟩
set_option maxRecDepth 100000 in
theorem lifted (os:Os) (started:os.Started) (H:Type) (enc:TypeId × Value→H) (F:Stop.Interp) :
    ReturnsInHanded {} Tryz.checked os 3 .any ((OpenSpec.ofChange Rows.markingReadsSpec).preRow enc Tryz.prog Tryz.f3 Rows.markingReadsRow.domain false Rows.markingReadsRow.laid) (((OpenSpec.ofChange Rows.markingReadsSpec).at F).post enc Tryz.prog Tryz.f3 false true false false):=by
  obtain ⟨places,hx⟩:=reads os enc
  refine returnsInHanded_of_row (C:=Tryz.checked) (s:=OpenSpec.ofChange Rows.markingReadsSpec) own started (by kernel_rfl) Tryz.func3
    (witness_row_at (enc:=enc) (C:=Tryz.checked) false (laidWorld os) #[.slice none 0 0,.string ⟨#[]⟩] rfl (by kernel_rfl) (by kernel_rfl) (by kernel_rfl)
      (OpenSpec.preRow_of_cond 8 hx (by kernel_rfl) (fun k hk=>by cases hk) (by kernel_rfl) (laid_metA os _))) ?_
  intro W base args ds gs before hval hW _ _ _ hL hsh _
  exact contract H enc W base args ds gs before hval hW hL hsh
theorem said:Rows.MarkingReadsSaid :=
  OpenClaim.holds_of_cond 3 Tryz.f3 rfl rfl rfl rfl rfl rfl rfl ⟨rfl,rfl,rfl,rfl,rfl⟩ rfl rfl rfl rfl rfl (by as_aux_lemma=>kernel_rfl) Tryz.func3 closed
    (of_decide_eq_true (by as_aux_lemma=>kernel_rfl)) (by unfold Func.isWrapper;first|(rw [if_pos (by decide +kernel)];kernel_rfl)|(rw [if_neg (by decide +kernel)];exact ⟨rfl,rfl⟩))
    (fun os started H enc _ F=>by rw [OpenClaim.pre_eq_preRow];exact lifted os started H enc F)
end Go.Proofs.YtbbclfbpllbbbaaGreatDoor.markingReads
