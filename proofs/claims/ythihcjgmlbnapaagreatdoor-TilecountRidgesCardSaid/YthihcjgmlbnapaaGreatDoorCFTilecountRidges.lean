/- The closed cells of the row of TilecountRidges, limb by limb. -/
import Derived.Test.YthihcjgmlbnapaaGreatDoorRows
import Derived.ProofKit
import Derived.Deep.DeepHandedRow
set_option maxRecDepth 100000
set_option linter.unusedVariables false
set_option linter.unusedSimpArgs false
set_option maxHeartbeats 12800000
namespace Go.Proofs.YthihcjgmlbnapaaGreatDoor.tilecountRidges
theorem and_true' {a b:Bool} (ha:a=true) (hb:b=true):(a && b)=true:=by rw [ha,hb];rfl
theorem closed:joinedFacts Tryz.prog 3 Tryz.f3 (OpenSpec.ofChange Rows.tilecountRidgesSpec).bare Rows.tilecountRidgesRow=true:=by
  unfold joinedFacts
  repeat' (with_reducible refine and_true' ?_ ?_)
  all_goals (as_aux_lemma=>kernel_rfl)
end Go.Proofs.YthihcjgmlbnapaaGreatDoor.tilecountRidges
