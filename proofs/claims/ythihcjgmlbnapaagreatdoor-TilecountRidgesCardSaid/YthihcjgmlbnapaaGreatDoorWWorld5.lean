/- A world for the row's witness: the heap that the door's own run leaves, and the pinned table. -/
import Derived.Test.YthihcjgmlbnapaaGreatDoorRows
import Derived.Lib.LaidTab
import Derived.ProofKit
import Derived.LaidMore
import Derived.Deep.DeepHandedRow
import Derived.Deep.DeepWitnessRowRef
set_option maxRecDepth 100000
set_option linter.unusedVariables false
set_option linter.unusedSimpArgs false
set_option maxHeartbeats 12800000
namespace Go.Proofs.YthihcjgmlbnapaaGreatDoor
open Go.RowKit Go.ChangeAt
def lits1:DataW Unit→List Value
 | .lit (.int k n)=>[.int k n]
 | .lit (.string s)=>[.string ⟨s.toArray⟩]
 | _=>[]
def lits2:DataW Unit→List Value
 | .agg l=>l.flatMap lits1
 | d=>lits1 d
def lits3:DataW Unit→List Value
 | .agg l=>l.flatMap lits2
 | d=>lits1 d
def putCells (cs:List Value):Obj→Obj
 | .cells _ t frozen=>.cells cs.toArray t frozen
 | o=>o
noncomputable def laidWorld (os:Os):World :=
 let w0:=World.doorLaid Tryz.prog 127 os
 { w0 with heap:=w0.heap.modify 9 (putCells (lits3 Rows.laid_unicode_utf8_first)) }
theorem laid_metR (os:Os) (args:Array Value):laidMetH Tryz.prog Rows.tilecountRidgesRow.laid ((laidWorld os).forCall (fun _ _=>0) ⟨#[],args,[]⟩).memory :=
 laidMetH_of_parts3 (fuel:=8) (laidMet_of_run' 8 (by kernel_rfl) (by kernel_rfl)) (by kernel_rfl) (by kernel_rfl)
end Go.Proofs.YthihcjgmlbnapaaGreatDoor
