/- Walks: gutter.Size at valid tables; kingpostlaw50.GutterSizes. -/
import Derived.Test.YteepphiomcedfaaGreatDoorWTable2
import Derived.Test.YteepphiomcedfaaGreatDoorWFlows50
import Derived.Test.YteepphiomcedfaaGreatDoorJ07
set_option maxRecDepth 100000
set_option linter.unusedVariables false
set_option linter.unusedSimpArgs false
set_option maxHeartbeats 6400000
namespace Go.Proofs.YteepphiomcedfaaGreatDoor
open Go.RowKit
theorem CodeT.zero {T:List (List Int)} (h:CodeT T 0):∀ j,j < T.length→rowCode T j=0:=by
 rcases h with ⟨_,h⟩|⟨_,h,_⟩|⟨_,_,h⟩
 ·exact absurd h (by decide)
 ·exact absurd rfl h
 ·exact h
end Go.Proofs.YteepphiomcedfaaGreatDoor
