/-
  DERIVED. GIVEN WITH THE SEED: THE CARDS: each row of YtbbclfbpllbbbaaGreatDoorRows.lean that lists a variable, with what it lists TIED to the program's text (the seventh form; the later family's looks); each row that meets fmt, with fmt's text TOLD by the authors' own Lean function (tested against real Go, not proved from fmt's source: count such statements apart). THE CARD IS WHAT COUNTS. Prove the row's statement (the work); the ties are given (YtbbclfbpllbbbaaGreatDoorTie.lean); close each card by the builder's one call (the guide's Derived/Test/ToyasCard.lean, 'card_holds'). Laid BY PROGRAM, IN A SANDBOX (cutbox-door.mjs). By AI agents, Wed Nov 11 2026. No macro, syntax, notation, axiom, sorry.
-/
import Derived.Test.YtbbclfbpllbbbaaGreatDoorRows
import GoSem.ClaimSeven
namespace Go.Proofs.YtbbclfbpllbbbaaGreatDoor
namespace Rows

/-- THE TIED CARD OF 'kingpostlaw56.MarkingReads'. -/
def markingReadsCard : Claim7 := { stood := { row := markingReadsRow, standIns := [], harness := (true, "b76921971df04fdcff4073a3df507498a0b1e405aff6f21e33a7273edee93e83"), looks := true }, kinds := [], alts := [], laidByText := true, laidKinds := [.data, .data, .data, .data, .sentinel, .sentinel, .data, .pinned], laidTests := true, laidLooks := .later }
def MarkingReadsCardSaid : Prop := Claim7.holds Tryz.pinned (.plain (OpenSpec.ofChange markingReadsSpec)) markingReadsCard

/-- THE TIED CARD OF 'kingpostlaw56.MarkingLengths'. -/
def markingLengthsCard : Claim7 := { stood := { row := markingLengthsRow, standIns := [], harness := (true, "b76921971df04fdcff4073a3df507498a0b1e405aff6f21e33a7273edee93e83"), looks := true }, kinds := [], alts := [], laidByText := true, laidKinds := [.data, .data, .data, .data, .sentinel, .sentinel, .data, .data, .pinned], laidTests := true, laidLooks := .later }
def MarkingLengthsCardSaid : Prop := Claim7.holds Tryz.pinned (.plain (OpenSpec.ofChange markingLengthsSpec)) markingLengthsCard

/-- THE TIED CARD OF 'kingpostlaw47.CourseGauge'. -/
def courseGaugeCard : Claim7 := { stood := { row := courseGaugeRow, standIns := [], harness := (true, "b76921971df04fdcff4073a3df507498a0b1e405aff6f21e33a7273edee93e83"), looks := true }, kinds := [], alts := [], laidByText := true, laidKinds := [.data, .data, .data, .data, .sentinel, .sentinel, .data, .data, .pinned], laidTests := true, laidLooks := .later }
def CourseGaugeCardSaid : Prop := Claim7.holds Tryz.pinned (.plain (OpenSpec.ofChange courseGaugeSpec)) courseGaugeCard

/-- THE TIED CARD OF 'kingpostlaw47.CourseLonger'. -/
def courseLongerCard : Claim7 := { stood := { row := courseLongerRow, standIns := [], harness := (true, "b76921971df04fdcff4073a3df507498a0b1e405aff6f21e33a7273edee93e83"), looks := true }, kinds := [], alts := [], laidByText := true, laidKinds := [.data, .data, .data, .data, .sentinel, .sentinel, .data, .data, .pinned], laidTests := true, laidLooks := .later }
def CourseLongerCardSaid : Prop := Claim7.holds Tryz.pinned (.plain (OpenSpec.ofChange courseLongerSpec)) courseLongerCard

/-- THE TIED CARD OF 'kingpostlaw56.MarkingRebuilds'. -/
def markingRebuildsCard : Claim7 := { stood := { row := markingRebuildsRow, standIns := [], harness := (true, "b76921971df04fdcff4073a3df507498a0b1e405aff6f21e33a7273edee93e83"), looks := true }, kinds := [], alts := [], laidByText := true, laidKinds := [.data, .data, .data, .data, .sentinel, .sentinel, .data, .data, .pinned], laidTests := true, laidLooks := .later }
def MarkingRebuildsCardSaid : Prop := Claim7.holds Tryz.pinned (.plain (OpenSpec.ofChange markingRebuildsSpec)) markingRebuildsCard

/-- THE SECOND FORM's CARD OF 'kingpostlaw56.MarkingReads'. -/
def markingReadsUptoCard : Claim7 := { stood := { row := markingReadsUptoRow, standIns := [], harness := (true, "b76921971df04fdcff4073a3df507498a0b1e405aff6f21e33a7273edee93e83"), looks := true }, kinds := [], alts := [], laidByText := true, laidKinds := [.data, .data, .data, .data, .sentinel, .sentinel, .data, .pinned], laidTests := true, laidLooks := .later }
def MarkingReadsUptoCardSaid : Prop := Claim7.holds Tryz.pinned (.plain (OpenSpec.upto markingReadsSpec)) markingReadsUptoCard

/-- THE SECOND FORM's CARD OF 'kingpostlaw56.MarkingLengths'. -/
def markingLengthsUptoCard : Claim7 := { stood := { row := markingLengthsUptoRow, standIns := [], harness := (true, "b76921971df04fdcff4073a3df507498a0b1e405aff6f21e33a7273edee93e83"), looks := true }, kinds := [], alts := [], laidByText := true, laidKinds := [.data, .data, .data, .data, .sentinel, .sentinel, .data, .data, .pinned], laidTests := true, laidLooks := .later }
def MarkingLengthsUptoCardSaid : Prop := Claim7.holds Tryz.pinned (.plain (OpenSpec.upto markingLengthsSpec)) markingLengthsUptoCard

/-- THE SECOND FORM's CARD OF 'kingpostlaw47.CourseGauge'. -/
def courseGaugeUptoCard : Claim7 := { stood := { row := courseGaugeUptoRow, standIns := [], harness := (true, "b76921971df04fdcff4073a3df507498a0b1e405aff6f21e33a7273edee93e83"), looks := true }, kinds := [], alts := [], laidByText := true, laidKinds := [.data, .data, .data, .data, .sentinel, .sentinel, .data, .data, .pinned], laidTests := true, laidLooks := .later }
def CourseGaugeUptoCardSaid : Prop := Claim7.holds Tryz.pinned (.plain (OpenSpec.upto courseGaugeSpec)) courseGaugeUptoCard

/-- THE SECOND FORM's CARD OF 'kingpostlaw47.CourseLonger'. -/
def courseLongerUptoCard : Claim7 := { stood := { row := courseLongerUptoRow, standIns := [], harness := (true, "b76921971df04fdcff4073a3df507498a0b1e405aff6f21e33a7273edee93e83"), looks := true }, kinds := [], alts := [], laidByText := true, laidKinds := [.data, .data, .data, .data, .sentinel, .sentinel, .data, .data, .pinned], laidTests := true, laidLooks := .later }
def CourseLongerUptoCardSaid : Prop := Claim7.holds Tryz.pinned (.plain (OpenSpec.upto courseLongerSpec)) courseLongerUptoCard

/-- THE SECOND FORM's CARD OF 'kingpostlaw56.MarkingRebuilds'. -/
def markingRebuildsUptoCard : Claim7 := { stood := { row := markingRebuildsUptoRow, standIns := [], harness := (true, "b76921971df04fdcff4073a3df507498a0b1e405aff6f21e33a7273edee93e83"), looks := true }, kinds := [], alts := [], laidByText := true, laidKinds := [.data, .data, .data, .data, .sentinel, .sentinel, .data, .data, .pinned], laidTests := true, laidLooks := .later }
def MarkingRebuildsUptoCardSaid : Prop := Claim7.holds Tryz.pinned (.plain (OpenSpec.upto markingRebuildsSpec)) markingRebuildsUptoCard
end Rows
end Go.Proofs.YtbbclfbpllbbbaaGreatDoor
