/-
  DERIVED. GIVEN WITH THE SEED: THE CARDS: each row of YthihcjgmlbnapaaGreatDoorRows.lean that lists a variable, with what it lists TIED to the program's text (the seventh form; the later family's looks); each row that meets fmt, with fmt's text TOLD by the authors' own Lean function (tested against real Go, not proved from fmt's source: count such statements apart). THE CARD IS WHAT COUNTS. Prove the row's statement (the work); the ties are given (YthihcjgmlbnapaaGreatDoorTie.lean); close each card by the builder's one call (the guide's Derived/Test/ToyasCard.lean, 'card_holds'). Laid BY PROGRAM, IN A SANDBOX (cutbox-door.mjs). By AI agents, Wed Nov 11 2026. No macro, syntax, notation, axiom, sorry.
-/
import Derived.Test.YthihcjgmlbnapaaGreatDoorRows
import GoSem.ClaimSeven
namespace Go.Proofs.YthihcjgmlbnapaaGreatDoor
namespace Rows

/-- THE TIED CARD OF 'kingpostlaw48.TilecountRidges'. -/
def tilecountRidgesCard : Claim7 := { stood := { row := tilecountRidgesRow, standIns := [], harness := (true, "f7fb8694be34a19c4a743491f0a4360a967fcb50e165b5142a83e1a050b39511"), looks := true }, kinds := [], alts := [], laidByText := true, laidKinds := [.data, .data, .data, .data, .sentinel, .sentinel, .data, .data, .funcs, .pinned], laidTests := true, laidLooks := .later }
def TilecountRidgesCardSaid : Prop := Claim7.holds Tryz.pinned (.plain (OpenSpec.ofChange tilecountRidgesSpec)) tilecountRidgesCard

/-- THE SECOND FORM's CARD OF 'kingpostlaw48.TilecountRidges'. -/
def tilecountRidgesUptoCard : Claim7 := { stood := { row := tilecountRidgesUptoRow, standIns := [], harness := (true, "f7fb8694be34a19c4a743491f0a4360a967fcb50e165b5142a83e1a050b39511"), looks := true }, kinds := [], alts := [], laidByText := true, laidKinds := [.data, .data, .data, .data, .sentinel, .sentinel, .data, .data, .funcs, .pinned], laidTests := true, laidLooks := .later }
def TilecountRidgesUptoCardSaid : Prop := Claim7.holds Tryz.pinned (.plain (OpenSpec.upto tilecountRidgesSpec)) tilecountRidgesUptoCard
end Rows
end Go.Proofs.YthihcjgmlbnapaaGreatDoor
