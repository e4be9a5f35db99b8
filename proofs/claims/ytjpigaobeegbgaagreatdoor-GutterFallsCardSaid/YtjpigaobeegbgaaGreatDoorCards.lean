/-
  DERIVED. GIVEN WITH THE SEED: THE CARDS: each row of YtjpigaobeegbgaaGreatDoorRows.lean that lists a variable, with what it lists TIED to the program's text (the seventh form; the later family's looks); each row that meets fmt, with fmt's text TOLD by the authors' own Lean function (tested against real Go, not proved from fmt's source: count such statements apart). THE CARD IS WHAT COUNTS. Prove the row's statement (the work); the ties are given (YtjpigaobeegbgaaGreatDoorTie.lean); close each card by the builder's one call (the guide's Derived/Test/ToyasCard.lean, 'card_holds'). Laid BY PROGRAM, IN A SANDBOX (cutbox-door.mjs). By AI agents, Wed Nov 11 2026. No macro, syntax, notation, axiom, sorry.
-/
import Derived.Test.YtjpigaobeegbgaaGreatDoorRows
import GoSem.ClaimSeven
namespace Go.Proofs.YtjpigaobeegbgaaGreatDoor
namespace Rows

/-- THE TIED CARD OF 'kingpostlaw50.GutterEven'. -/
def gutterEvenCard : Claim7 := { stood := { row := gutterEvenRow, standIns := [], harness := (true, "fc69a589b54bd532593c7818ec00d3729aaa7de5f33d81438eac671337fb166e"), looks := true }, kinds := [], alts := [], laidByText := true, laidKinds := [.data, .data, .data, .data, .sentinel, .sentinel, .pinned], laidTests := true, laidLooks := .later }
def GutterEvenCardSaid : Prop := Claim7.holds Tryz.pinned (.plain (OpenSpec.ofChange gutterEvenSpec)) gutterEvenCard

/-- THE TIED CARD OF 'kingpostlaw48.TilecountSpans'. -/
def tilecountSpansCard : Claim7 := { stood := { row := tilecountSpansRow, standIns := [], harness := (true, "fc69a589b54bd532593c7818ec00d3729aaa7de5f33d81438eac671337fb166e"), looks := true }, kinds := [], alts := [], laidByText := true, laidKinds := [.data, .data, .data, .data, .sentinel, .sentinel, .pinned], laidTests := true, laidLooks := .later }
def TilecountSpansCardSaid : Prop := Claim7.holds Tryz.pinned (.plain (OpenSpec.ofChange tilecountSpansSpec)) tilecountSpansCard

/-- THE TIED CARD OF 'kingpostlaw48.TilecountBegins'. -/
def tilecountBeginsCard : Claim7 := { stood := { row := tilecountBeginsRow, standIns := [], harness := (true, "fc69a589b54bd532593c7818ec00d3729aaa7de5f33d81438eac671337fb166e"), looks := true }, kinds := [], alts := [], laidByText := true, laidKinds := [.data, .data, .data, .data, .sentinel, .sentinel, .pinned], laidTests := true, laidLooks := .later }
def TilecountBeginsCardSaid : Prop := Claim7.holds Tryz.pinned (.plain (OpenSpec.ofChange tilecountBeginsSpec)) tilecountBeginsCard

/-- THE TIED CARD OF 'kingpostlaw48.TilecountMoved'. -/
def tilecountMovedCard : Claim7 := { stood := { row := tilecountMovedRow, standIns := [], harness := (true, "fc69a589b54bd532593c7818ec00d3729aaa7de5f33d81438eac671337fb166e"), looks := true }, kinds := [], alts := [], laidByText := true, laidKinds := [.data, .data, .data, .data, .sentinel, .sentinel, .pinned], laidTests := true, laidLooks := .later }
def TilecountMovedCardSaid : Prop := Claim7.holds Tryz.pinned (.plain (OpenSpec.ofChange tilecountMovedSpec)) tilecountMovedCard

/-- THE TIED CARD OF 'kingpostlaw48.TilecountSpare'. -/
def tilecountSpareCard : Claim7 := { stood := { row := tilecountSpareRow, standIns := [], harness := (true, "fc69a589b54bd532593c7818ec00d3729aaa7de5f33d81438eac671337fb166e"), looks := true }, kinds := [], alts := [], laidByText := true, laidKinds := [.data, .data, .data, .data, .sentinel, .sentinel, .pinned], laidTests := true, laidLooks := .later }
def TilecountSpareCardSaid : Prop := Claim7.holds Tryz.pinned (.plain (OpenSpec.ofChange tilecountSpareSpec)) tilecountSpareCard

/-- THE TIED CARD OF 'kingpostlaw50.GutterSides'. -/
def gutterSidesCard : Claim7 := { stood := { row := gutterSidesRow, standIns := [], harness := (true, "fc69a589b54bd532593c7818ec00d3729aaa7de5f33d81438eac671337fb166e"), looks := true }, kinds := [], alts := [], laidByText := true, laidKinds := [.data, .data, .data, .data, .sentinel, .sentinel, .pinned], laidTests := true, laidLooks := .later }
def GutterSidesCardSaid : Prop := Claim7.holds Tryz.pinned (.plain (OpenSpec.ofChange gutterSidesSpec)) gutterSidesCard

/-- THE TIED CARD OF 'kingpostlaw50.GutterFalls'. -/
def gutterFallsCard : Claim7 := { stood := { row := gutterFallsRow, standIns := [], harness := (true, "fc69a589b54bd532593c7818ec00d3729aaa7de5f33d81438eac671337fb166e"), looks := true }, kinds := [], alts := [], laidByText := true, laidKinds := [.data, .data, .data, .data, .sentinel, .sentinel, .pinned], laidTests := true, laidLooks := .later }
def GutterFallsCardSaid : Prop := Claim7.holds Tryz.pinned (.plain (OpenSpec.ofChange gutterFallsSpec)) gutterFallsCard

/-- THE SECOND FORM's CARD OF 'kingpostlaw50.GutterEven'. -/
def gutterEvenUptoCard : Claim7 := { stood := { row := gutterEvenUptoRow, standIns := [], harness := (true, "fc69a589b54bd532593c7818ec00d3729aaa7de5f33d81438eac671337fb166e"), looks := true }, kinds := [], alts := [], laidByText := true, laidKinds := [.data, .data, .data, .data, .sentinel, .sentinel, .pinned], laidTests := true, laidLooks := .later }
def GutterEvenUptoCardSaid : Prop := Claim7.holds Tryz.pinned (.plain (OpenSpec.upto gutterEvenSpec)) gutterEvenUptoCard

/-- THE SECOND FORM's CARD OF 'kingpostlaw48.TilecountSpans'. -/
def tilecountSpansUptoCard : Claim7 := { stood := { row := tilecountSpansUptoRow, standIns := [], harness := (true, "fc69a589b54bd532593c7818ec00d3729aaa7de5f33d81438eac671337fb166e"), looks := true }, kinds := [], alts := [], laidByText := true, laidKinds := [.data, .data, .data, .data, .sentinel, .sentinel, .pinned], laidTests := true, laidLooks := .later }
def TilecountSpansUptoCardSaid : Prop := Claim7.holds Tryz.pinned (.plain (OpenSpec.upto tilecountSpansSpec)) tilecountSpansUptoCard

/-- THE SECOND FORM's CARD OF 'kingpostlaw48.TilecountBegins'. -/
def tilecountBeginsUptoCard : Claim7 := { stood := { row := tilecountBeginsUptoRow, standIns := [], harness := (true, "fc69a589b54bd532593c7818ec00d3729aaa7de5f33d81438eac671337fb166e"), looks := true }, kinds := [], alts := [], laidByText := true, laidKinds := [.data, .data, .data, .data, .sentinel, .sentinel, .pinned], laidTests := true, laidLooks := .later }
def TilecountBeginsUptoCardSaid : Prop := Claim7.holds Tryz.pinned (.plain (OpenSpec.upto tilecountBeginsSpec)) tilecountBeginsUptoCard

/-- THE SECOND FORM's CARD OF 'kingpostlaw48.TilecountMoved'. -/
def tilecountMovedUptoCard : Claim7 := { stood := { row := tilecountMovedUptoRow, standIns := [], harness := (true, "fc69a589b54bd532593c7818ec00d3729aaa7de5f33d81438eac671337fb166e"), looks := true }, kinds := [], alts := [], laidByText := true, laidKinds := [.data, .data, .data, .data, .sentinel, .sentinel, .pinned], laidTests := true, laidLooks := .later }
def TilecountMovedUptoCardSaid : Prop := Claim7.holds Tryz.pinned (.plain (OpenSpec.upto tilecountMovedSpec)) tilecountMovedUptoCard

/-- THE SECOND FORM's CARD OF 'kingpostlaw48.TilecountSpare'. -/
def tilecountSpareUptoCard : Claim7 := { stood := { row := tilecountSpareUptoRow, standIns := [], harness := (true, "fc69a589b54bd532593c7818ec00d3729aaa7de5f33d81438eac671337fb166e"), looks := true }, kinds := [], alts := [], laidByText := true, laidKinds := [.data, .data, .data, .data, .sentinel, .sentinel, .pinned], laidTests := true, laidLooks := .later }
def TilecountSpareUptoCardSaid : Prop := Claim7.holds Tryz.pinned (.plain (OpenSpec.upto tilecountSpareSpec)) tilecountSpareUptoCard

/-- THE SECOND FORM's CARD OF 'kingpostlaw50.GutterSides'. -/
def gutterSidesUptoCard : Claim7 := { stood := { row := gutterSidesUptoRow, standIns := [], harness := (true, "fc69a589b54bd532593c7818ec00d3729aaa7de5f33d81438eac671337fb166e"), looks := true }, kinds := [], alts := [], laidByText := true, laidKinds := [.data, .data, .data, .data, .sentinel, .sentinel, .pinned], laidTests := true, laidLooks := .later }
def GutterSidesUptoCardSaid : Prop := Claim7.holds Tryz.pinned (.plain (OpenSpec.upto gutterSidesSpec)) gutterSidesUptoCard

/-- THE SECOND FORM's CARD OF 'kingpostlaw50.GutterFalls'. -/
def gutterFallsUptoCard : Claim7 := { stood := { row := gutterFallsUptoRow, standIns := [], harness := (true, "fc69a589b54bd532593c7818ec00d3729aaa7de5f33d81438eac671337fb166e"), looks := true }, kinds := [], alts := [], laidByText := true, laidKinds := [.data, .data, .data, .data, .sentinel, .sentinel, .pinned], laidTests := true, laidLooks := .later }
def GutterFallsUptoCardSaid : Prop := Claim7.holds Tryz.pinned (.plain (OpenSpec.upto gutterFallsSpec)) gutterFallsUptoCard
end Rows
end Go.Proofs.YtjpigaobeegbgaaGreatDoor
