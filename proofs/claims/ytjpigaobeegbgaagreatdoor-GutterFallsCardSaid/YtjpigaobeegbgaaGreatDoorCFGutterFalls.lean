/- The closed cells of the row of GutterFalls, limb by limb. -/
import Derived.Test.YtjpigaobeegbgaaGreatDoorRows
import Derived.ProofKit
import Derived.Deep.DeepHandedRow
set_option linter.unusedVariables false
set_option linter.unusedSimpArgs false
namespace Go.Proofs.YtjpigaobeegbgaaGreatDoor.gutterFalls
theorem and_true' {a b : Bool} (ha : a = true) (hb : b = true) : (a && b) = true := by rw [ha, hb]; rfl
set_option maxHeartbeats 12800000 in
theorem closed : joinedFacts Tryz.prog 9 Tryz.f9 (OpenSpec.ofChange Rows.gutterFallsSpec).bare Rows.gutterFallsRow = true := by
  unfold joinedFacts
  repeat' (with_reducible refine and_true' ?_ ?_)
  all_goals (as_aux_lemma => kernel_rfl)
end Go.Proofs.YtjpigaobeegbgaaGreatDoor.gutterFalls
