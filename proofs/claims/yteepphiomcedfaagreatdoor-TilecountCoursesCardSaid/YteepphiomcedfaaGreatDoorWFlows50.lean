/- The walk of kingpostlaw50.GutterFlows. -/
import Derived.Test.YteepphiomcedfaaGreatDoorJ23
import Derived.Test.YteepphiomcedfaaGreatDoorJ14
set_option maxRecDepth 100000
set_option linter.unusedVariables false
set_option linter.unusedSimpArgs false
set_option maxHeartbeats 6400000
namespace Go.Proofs.YteepphiomcedfaaGreatDoor
open Go.RowKit
end Go.Proofs.YteepphiomcedfaaGreatDoor
