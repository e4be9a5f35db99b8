/- The closed cells of the row of TilecountBegins, limb by limb. -/
import Derived.Test.YtjpigaobeegbgaaGreatDoorRows
import Derived.ProofKit
import Derived.Deep.DeepHandedRow
namespace Go.Proofs.YtjpigaobeegbgaaGreatDoor.tilecountBegins
theorem and_true' {a b : Bool} (ha : a = true) (hb : b = true) : (a && b) = true := by rw [ha, hb]; rfl
set_option maxHeartbeats 12800000 in
theorem closed : joinedFacts Tryz.prog 5 Tryz.f5 (OpenSpec.ofChange Rows.tilecountBeginsSpec).bare Rows.tilecountBeginsRow = true := by
  unfold joinedFacts
  repeat' (with_reducible refine and_true' ?_ ?_)
  all_goals (as_aux_lemma => kernel_rfl)
end Go.Proofs.YtjpigaobeegbgaaGreatDoor.tilecountBegins
