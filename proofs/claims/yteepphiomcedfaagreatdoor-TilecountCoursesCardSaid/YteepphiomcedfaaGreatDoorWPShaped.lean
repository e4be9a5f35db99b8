/- Walks: plan.shaped. -/
import Derived.Test.YteepphiomcedfaaGreatDoorJ08
set_option maxRecDepth 100000
set_option linter.unusedVariables false
set_option linter.unusedSimpArgs false
set_option maxHeartbeats 6400000
namespace Go.Proofs.YteepphiomcedfaaGreatDoor
open Go.RowKit Go.Shelf
attribute [local go_sem] Oper.semAt_some
end Go.Proofs.YteepphiomcedfaaGreatDoor
