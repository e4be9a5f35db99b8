/-
  DERIVED. GIVEN WITH THE SEED: THE CARDS: each row of YteepphiomcedfaaGreatDoorRows.lean that lists a variable, with what it lists TIED to the program's text (the seventh form; the later family's looks); each row that meets fmt, with fmt's text TOLD by the authors' own Lean function (tested against real Go, not proved from fmt's source: count such statements apart). THE CARD IS WHAT COUNTS. Prove the row's statement (the work); the ties are given (YteepphiomcedfaaGreatDoorTie.lean); close each card by the builder's one call (the guide's Derived/Test/ToyasCard.lean, 'card_holds'). Laid BY PROGRAM, IN A SANDBOX (cutbox-door.mjs). By AI agents, Wed Nov 11 2026. No macro, syntax, notation, axiom, sorry.
-/
import Derived.Test.YteepphiomcedfaaGreatDoorRows
import GoSem.ClaimSeven
namespace Go.Proofs.YteepphiomcedfaaGreatDoor
namespace Rows

/-- THE TIED CARD OF 'kingpostlaw48.TilecountCourses'. -/
def tilecountCoursesCard : Claim7 := { stood := { row := tilecountCoursesRow, standIns := [], harness := (true, "05317c87e75ad0b1397fd689fb61845cc74cac4304a0779a5a5c32655197b42b"), looks := true }, kinds := [], alts := [], laidByText := true, laidKinds := [.data, .data, .data, .data, .sentinel, .sentinel, .pinned], laidTests := true, laidLooks := .later }
def TilecountCoursesCardSaid : Prop := Claim7.holds Tryz.pinned (.plain (OpenSpec.ofChange tilecountCoursesSpec)) tilecountCoursesCard

/-- THE TIED CARD OF 'kingpostlaw50.GutterFlows'. -/
def gutterFlowsCard : Claim7 := { stood := { row := gutterFlowsRow, standIns := [], harness := (true, "05317c87e75ad0b1397fd689fb61845cc74cac4304a0779a5a5c32655197b42b"), looks := true }, kinds := [], alts := [], laidByText := true, laidKinds := [.data, .data, .data, .data, .sentinel, .sentinel, .pinned], laidTests := true, laidLooks := .later }
def GutterFlowsCardSaid : Prop := Claim7.holds Tryz.pinned (.plain (OpenSpec.ofChange gutterFlowsSpec)) gutterFlowsCard

/-- THE TIED CARD OF 'kingpostlaw50.GutterResults'. -/
def gutterResultsCard : Claim7 := { stood := { row := gutterResultsRow, standIns := [], harness := (true, "05317c87e75ad0b1397fd689fb61845cc74cac4304a0779a5a5c32655197b42b"), looks := true }, kinds := [], alts := [], laidByText := true, laidKinds := [.data, .data, .data, .data, .sentinel, .sentinel, .pinned], laidTests := true, laidLooks := .later }
def GutterResultsCardSaid : Prop := Claim7.holds Tryz.pinned (.plain (OpenSpec.ofChange gutterResultsSpec)) gutterResultsCard

/-- THE TIED CARD OF 'kingpostlaw50.GutterSizes'. -/
def gutterSizesCard : Claim7 := { stood := { row := gutterSizesRow, standIns := [], harness := (true, "05317c87e75ad0b1397fd689fb61845cc74cac4304a0779a5a5c32655197b42b"), looks := true }, kinds := [], alts := [], laidByText := true, laidKinds := [.data, .data, .data, .data, .sentinel, .sentinel, .pinned], laidTests := true, laidLooks := .later }
def GutterSizesCardSaid : Prop := Claim7.holds Tryz.pinned (.plain (OpenSpec.ofChange gutterSizesSpec)) gutterSizesCard

/-- THE TIED CARD OF 'kingpostlaw50.GutterOutlets'. -/
def gutterOutletsCard : Claim7 := { stood := { row := gutterOutletsRow, standIns := [], harness := (true, "05317c87e75ad0b1397fd689fb61845cc74cac4304a0779a5a5c32655197b42b"), looks := true }, kinds := [], alts := [], laidByText := true, laidKinds := [.data, .data, .data, .data, .sentinel, .sentinel, .pinned], laidTests := true, laidLooks := .later }
def GutterOutletsCardSaid : Prop := Claim7.holds Tryz.pinned (.plain (OpenSpec.ofChange gutterOutletsSpec)) gutterOutletsCard

/-- THE SECOND FORM's CARD OF 'kingpostlaw48.TilecountCourses'. -/
def tilecountCoursesUptoCard : Claim7 := { stood := { row := tilecountCoursesUptoRow, standIns := [], harness := (true, "05317c87e75ad0b1397fd689fb61845cc74cac4304a0779a5a5c32655197b42b"), looks := true }, kinds := [], alts := [], laidByText := true, laidKinds := [.data, .data, .data, .data, .sentinel, .sentinel, .pinned], laidTests := true, laidLooks := .later }
def TilecountCoursesUptoCardSaid : Prop := Claim7.holds Tryz.pinned (.plain (OpenSpec.upto tilecountCoursesSpec)) tilecountCoursesUptoCard

/-- THE SECOND FORM's CARD OF 'kingpostlaw50.GutterFlows'. -/
def gutterFlowsUptoCard : Claim7 := { stood := { row := gutterFlowsUptoRow, standIns := [], harness := (true, "05317c87e75ad0b1397fd689fb61845cc74cac4304a0779a5a5c32655197b42b"), looks := true }, kinds := [], alts := [], laidByText := true, laidKinds := [.data, .data, .data, .data, .sentinel, .sentinel, .pinned], laidTests := true, laidLooks := .later }
def GutterFlowsUptoCardSaid : Prop := Claim7.holds Tryz.pinned (.plain (OpenSpec.upto gutterFlowsSpec)) gutterFlowsUptoCard

/-- THE SECOND FORM's CARD OF 'kingpostlaw50.GutterResults'. -/
def gutterResultsUptoCard : Claim7 := { stood := { row := gutterResultsUptoRow, standIns := [], harness := (true, "05317c87e75ad0b1397fd689fb61845cc74cac4304a0779a5a5c32655197b42b"), looks := true }, kinds := [], alts := [], laidByText := true, laidKinds := [.data, .data, .data, .data, .sentinel, .sentinel, .pinned], laidTests := true, laidLooks := .later }
def GutterResultsUptoCardSaid : Prop := Claim7.holds Tryz.pinned (.plain (OpenSpec.upto gutterResultsSpec)) gutterResultsUptoCard

/-- THE SECOND FORM's CARD OF 'kingpostlaw50.GutterSizes'. -/
def gutterSizesUptoCard : Claim7 := { stood := { row := gutterSizesUptoRow, standIns := [], harness := (true, "05317c87e75ad0b1397fd689fb61845cc74cac4304a0779a5a5c32655197b42b"), looks := true }, kinds := [], alts := [], laidByText := true, laidKinds := [.data, .data, .data, .data, .sentinel, .sentinel, .pinned], laidTests := true, laidLooks := .later }
def GutterSizesUptoCardSaid : Prop := Claim7.holds Tryz.pinned (.plain (OpenSpec.upto gutterSizesSpec)) gutterSizesUptoCard

/-- THE SECOND FORM's CARD OF 'kingpostlaw50.GutterOutlets'. -/
def gutterOutletsUptoCard : Claim7 := { stood := { row := gutterOutletsUptoRow, standIns := [], harness := (true, "05317c87e75ad0b1397fd689fb61845cc74cac4304a0779a5a5c32655197b42b"), looks := true }, kinds := [], alts := [], laidByText := true, laidKinds := [.data, .data, .data, .data, .sentinel, .sentinel, .pinned], laidTests := true, laidLooks := .later }
def GutterOutletsUptoCardSaid : Prop := Claim7.holds Tryz.pinned (.plain (OpenSpec.upto gutterOutletsSpec)) gutterOutletsUptoCard
end Rows
end Go.Proofs.YteepphiomcedfaaGreatDoor
