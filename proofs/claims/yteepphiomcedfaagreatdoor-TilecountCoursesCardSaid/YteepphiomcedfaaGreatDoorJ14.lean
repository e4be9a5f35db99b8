/- Joined texts: WMiddles, WCollect, WOutlets, WAwake50. -/
import Derived.Test.YteepphiomcedfaaGreatDoorJ13
import Derived.RangeFuncBox
import Derived.Test.YteepphiomcedfaaGreatDoorJ04
import Derived.Test.YteepphiomcedfaaGreatDoorJ10
set_option maxRecDepth 100000
set_option linter.unusedVariables false
set_option linter.unusedSimpArgs false
set_option maxHeartbeats 6400000
namespace Go.Proofs.YteepphiomcedfaaGreatDoor
open Go.RowKit Go.Shelf
attribute [local go_sem] Oper.semAt_some
end Go.Proofs.YteepphiomcedfaaGreatDoor
namespace Go.Proofs.YteepphiomcedfaaGreatDoor
open Go.RowKit Go.Shelf
attribute [local go_sem] Oper.semAt_some
end Go.Proofs.YteepphiomcedfaaGreatDoor
namespace Go.Proofs.YteepphiomcedfaaGreatDoor
open Go.RowKit Go.Shelf
def parts (lo hi most:Int):Nat:=((hi - lo+2 * most - 1) / (2 * most)).toNat
end Go.Proofs.YteepphiomcedfaaGreatDoor
namespace Go.Proofs.YteepphiomcedfaaGreatDoor
open Go.RowKit Go.Shelf
end Go.Proofs.YteepphiomcedfaaGreatDoor
