/- A world for the rows' witnesses: the listed variables hold what their initialisers lay. -/
import Derived.Test.YteepphiomcedfaaGreatDoorRows
import Derived.Lib.LaidTab
import Derived.ProofKit
import Derived.Deep.DeepHandedRow
set_option maxRecDepth 100000
set_option linter.unusedVariables false
set_option linter.unusedSimpArgs false
set_option maxHeartbeats 6400000
namespace Go.Proofs.YteepphiomcedfaaGreatDoor
open Go.RowKit Go.ChangeAt
def lits1:DataW Unit→List Value
 | .lit (.int k n)=>[.int k n]
 | _=>[]
def lits2:DataW Unit→List Value
 | .agg l=>l.flatMap lits1
 | d=>lits1 d
def lits3:DataW Unit→List Value
 | .agg l=>l.flatMap lits2
 | d=>lits1 d
def putCells (cs:List Value):Obj→Obj
 | .cells _ t frozen=>.cells cs.toArray t frozen
 | o=>o
abbrev rangeS:ByteArray:=⟨#[118,97,108,117,101,32,111,117,116,32,111,102,32,114,97,110,103,101]⟩
abbrev syntaxS:ByteArray:=⟨#[105,110,118,97,108,105,100,32,115,121,110,116,97,120]⟩
noncomputable def low:Nat:=(World.holding Tryz.prog default ⟨#[],#[],[]⟩).heap.size
noncomputable def laidWorld (os:Os):World :=
 let w0:=World.holding Tryz.prog os ⟨#[.cells #[.string rangeS] 287,.cells #[.string syntaxS] 287],#[],[]⟩
 { w0 with heap:=((((((w0.heap.modify 2 (putCells (lits3 Rows.laid_internal_strconv_uint64pow10))).modify 1 (putCells [.iface 285 (.pointer (some ⟨low,0,none⟩))])).modify 0 (putCells [.iface 285 (.pointer (some ⟨low+1,0,none⟩))])).modify 4 (putCells (lits3 Rows.laid_math_bits_deBruijn32tab))).modify 5 (putCells (lits3 Rows.laid_math_bits_deBruijn64tab))).modify 6 (putCells (lits3 Rows.laid_unicode_utf8_first))).modify 7 (putCells (lits3 Rows.laid_unicode_utf8_acceptRanges)) }
theorem laid_met (os:Os) (args:Array Value):laidMet Tryz.prog Rows.gutterFlowsRow.laid ((laidWorld os).forCall (fun _ _=>0) ⟨#[],args,[]⟩).memory :=
 laidMet_of_run' 8 (by kernel_rfl) (by kernel_rfl)
end Go.Proofs.YteepphiomcedfaaGreatDoor
