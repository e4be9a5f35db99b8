/- A world for the rows' witnesses (chapters 56, 47): the listed variables hold what their initialisers lay. -/
import Derived.Test.YtbbclfbpllbbbaaGreatDoorRows
import Derived.Lib.LaidTab
import Derived.ProofKit
import Derived.Deep.DeepHandedRow
set_option maxRecDepth 100000
set_option linter.unusedVariables false
set_option linter.unusedSimpArgs false
set_option maxHeartbeats 12800000
namespace Go.Proofs.YtbbclfbpllbbbaaGreatDoor
open Go.RowKit Go.ChangeAt
def lits1:DataW Unit→List Value
 | .lit (.int k n)=>[.int k n]
 | .lit (.string s)=>[.string ⟨s.toArray⟩]
 | _=>[]
def lits2:DataW Unit→List Value
 | .agg l=>l.flatMap lits1
 | d=>lits1 d
def lits3:DataW Unit→List Value
 | .agg l=>l.flatMap lits2
 | d=>lits1 d
def putCells (cs:List Value):Obj→Obj
 | .cells _ t frozen=>.cells cs.toArray t frozen
 | o=>o
abbrev rangeS:ByteArray:=⟨#[118,97,108,117,101,32,111,117,116,32,111,102,32,114,97,110,103,101]⟩
abbrev syntaxS:ByteArray:=⟨#[105,110,118,97,108,105,100,32,115,121,110,116,97,120]⟩
noncomputable def low:Nat:=(World.holding Tryz.prog default ⟨#[],#[],[]⟩).heap.size
noncomputable def laidWorld (os:Os):World :=
 let w0:=World.holding Tryz.prog os ⟨#[.cells #[.string rangeS] 348,.cells #[.string syntaxS] 348],#[],[]⟩
 { w0 with heap:=((((((((w0.heap.modify 3 (putCells (lits3 Rows.laid_internal_strconv_uint64pow10))).modify 5 (putCells [.iface 346 (.pointer (some ⟨low,0,none⟩))])).modify 4 (putCells [.iface 346 (.pointer (some ⟨low+1,0,none⟩))])).modify 6 (putCells (lits3 Rows.laid_math_bits_deBruijn32tab))).modify 7 (putCells (lits3 Rows.laid_math_bits_deBruijn64tab))).modify 8 (putCells (lits3 Rows.laid_unicode_utf8_first))).modify 9 (putCells (lits3 Rows.laid_unicode_utf8_acceptRanges))).modify 1 (putCells (lits3 Rows.laid_kingpost_root_primes))).modify 0 (putCells (lits3 Rows.laid_kingpost_surd_signPlaces)) }
theorem laid_metB (os:Os) (args:Array Value):laidMet Tryz.prog Rows.markingLengthsRow.laid ((laidWorld os).forCall (fun _ _=>0) ⟨#[],args,[]⟩).memory :=
 laidMet_of_run' 8 (by kernel_rfl) (by kernel_rfl)
end Go.Proofs.YtbbclfbpllbbbaaGreatDoor
