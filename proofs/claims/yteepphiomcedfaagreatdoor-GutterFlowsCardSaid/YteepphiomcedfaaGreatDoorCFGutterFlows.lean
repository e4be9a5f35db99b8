/- The closed cells of the row of GutterFlows, limb by limb. -/
import Derived.Test.YteepphiomcedfaaGreatDoorRows
import Derived.ProofKit
import Derived.Deep.DeepHandedRow
set_option maxRecDepth 100000
set_option linter.unusedVariables false
set_option linter.unusedSimpArgs false
namespace Go.Proofs.YteepphiomcedfaaGreatDoor.gutterFlows
theorem and_true' {a b : Bool} (ha : a = true) (hb : b = true) : (a && b) = true := by rw [ha, hb]; rfl
set_option maxHeartbeats 12800000 in
theorem closed : joinedFacts Tryz.prog 4 Tryz.f4 (OpenSpec.ofChange Rows.gutterFlowsSpec).bare Rows.gutterFlowsRow = true := by
  unfold joinedFacts
  repeat' (with_reducible refine and_true' ?_ ?_)
  all_goals (as_aux_lemma => kernel_rfl)
end Go.Proofs.YteepphiomcedfaaGreatDoor.gutterFlows
