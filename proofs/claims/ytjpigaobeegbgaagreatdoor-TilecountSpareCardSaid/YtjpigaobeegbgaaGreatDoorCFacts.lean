/- The closed cells of the rows, limb by limb. -/
import Derived.Test.YtjpigaobeegbgaaGreatDoorRows
import Derived.ProofKit
import Derived.Deep.DeepHandedRow
namespace Go.Proofs.YtjpigaobeegbgaaGreatDoor
theorem and_true' {a b : Bool} (ha : a = true) (hb : b = true) : (a && b) = true := by rw [ha, hb]; rfl
namespace tilecountSpare
set_option maxHeartbeats 12800000 in
theorem closed : joinedFacts Tryz.prog 7 Tryz.f7 (OpenSpec.ofChange Rows.tilecountSpareSpec).bare Rows.tilecountSpareRow = true := by
  unfold joinedFacts
  repeat' (with_reducible refine and_true' ?_ ?_)
  all_goals (as_aux_lemma => kernel_rfl)
end tilecountSpare
end Go.Proofs.YtjpigaobeegbgaaGreatDoor
