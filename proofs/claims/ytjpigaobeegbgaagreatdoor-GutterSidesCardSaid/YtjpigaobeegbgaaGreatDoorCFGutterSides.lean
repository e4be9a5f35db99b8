/- The closed cells of the row of GutterSides, limb by limb. -/
import Derived.Test.YtjpigaobeegbgaaGreatDoorRows
import Derived.ProofKit
import Derived.Deep.DeepHandedRow
set_option linter.unusedVariables false
set_option linter.unusedSimpArgs false
namespace Go.Proofs.YtjpigaobeegbgaaGreatDoor.gutterSides
theorem and_true' {a b : Bool} (ha : a = true) (hb : b = true) : (a && b) = true := by rw [ha, hb]; rfl
set_option maxHeartbeats 12800000 in
theorem closed : joinedFacts Tryz.prog 8 Tryz.f8 (OpenSpec.ofChange Rows.gutterSidesSpec).bare Rows.gutterSidesRow = true := by
  unfold joinedFacts
  repeat' (with_reducible refine and_true' ?_ ?_)
  all_goals (as_aux_lemma => kernel_rfl)
end Go.Proofs.YtjpigaobeegbgaaGreatDoor.gutterSides
