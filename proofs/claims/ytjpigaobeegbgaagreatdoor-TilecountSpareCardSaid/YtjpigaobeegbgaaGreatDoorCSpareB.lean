/- The statement TilecountSpare. -/
import Derived.Test.YtjpigaobeegbgaaGreatDoorCSpareA
import Derived.Test.YtjpigaobeegbgaaGreatDoorCFacts
namespace Go.Proofs.YtjpigaobeegbgaaGreatDoor.tilecountSpare
open Go.ChangeShapes Go.WideShapes Go.ChangeAt Go.RowKit
theorem said : Rows.TilecountSpareSaid :=
  OpenClaim.holds_of_cond 7 Tryz.f7 rfl rfl rfl rfl rfl rfl rfl ⟨rfl, rfl, rfl, rfl, rfl⟩ rfl rfl rfl rfl rfl (by as_aux_lemma => kernel_rfl) Tryz.func7 closed
    (of_decide_eq_true (by as_aux_lemma => kernel_rfl)) (by unfold Func.isWrapper; first | (rw [if_pos (by decide +kernel)]; kernel_rfl) | (rw [if_neg (by decide +kernel)]; exact ⟨rfl, rfl⟩))
    (fun os started H enc _ F => by rw [OpenClaim.pre_eq_preRow]; exact lifted os started H enc F)
end Go.Proofs.YtjpigaobeegbgaaGreatDoor.tilecountSpare
