/- Walks: kingpostref50.Check and gutter.Check of a table: both return its code. -/
import Derived.Test.YteepphiomcedfaaGreatDoorWTable
set_option maxRecDepth 100000
set_option linter.unusedVariables false
set_option linter.unusedSimpArgs false
set_option maxHeartbeats 6400000
namespace Go.Proofs.YteepphiomcedfaaGreatDoor
open Go.RowKit
end Go.Proofs.YteepphiomcedfaaGreatDoor
