/-
  DERIVED. GIVEN WITH THE SEED: THE CARDS: each row of YtackacoaaihcjaaGreatDoorRows.lean that lists a variable, with what it lists TIED to the program's text (the seventh form; the later family's looks); each row that meets fmt, with fmt's text TOLD by the authors' own Lean function (tested against real Go, not proved from fmt's source: count such statements apart). THE CARD IS WHAT COUNTS. Prove the row's statement (the work); the ties are given (YtackacoaaihcjaaGreatDoorTie.lean); close each card by the builder's one call (the guide's Derived/Test/ToyasCard.lean, 'card_holds'). Laid BY PROGRAM, IN A SANDBOX (cutbox-door.mjs). By AI agents, Wed Nov 11 2026. No macro, syntax, notation, axiom, sorry.
-/
import Derived.Test.YtackacoaaihcjaaGreatDoorRows
import GoSem.ClaimSeven
namespace Go.Proofs.YtackacoaaihcjaaGreatDoor
namespace Rows

/-- THE TIED CARD OF 'buchholzlaw10.RecordReleased'. -/
def recordReleasedCard : Claim7 := { stood := { row := recordReleasedRow, standIns := [], harness := (true, "5de75394fcf4071a49d1c426ce9f3e91d107d871be1114e97a52313f088b1c88"), looks := true }, kinds := [], alts := [], laidByText := true, laidKinds := [.data, .data, .data, .data, .sentinel, .sentinel, .widerDeep, .data, .pinned], laidTests := true, laidLooks := .later }
def RecordReleasedCardSaid : Prop := Claim7.holds Tryz.pinned (.plain (OpenSpec.ofChange recordReleasedSpec)) recordReleasedCard

/-- THE TIED CARD OF 'buchholzlaw10.RecordTraced'. -/
def recordTracedCard : Claim7 := { stood := { row := recordTracedRow, standIns := [], harness := (true, "5de75394fcf4071a49d1c426ce9f3e91d107d871be1114e97a52313f088b1c88"), looks := true }, kinds := [], alts := [], laidByText := true, laidKinds := [.data, .data, .data, .data, .sentinel, .sentinel, .widerDeep, .data, .pinned], laidTests := true, laidLooks := .later }
def RecordTracedCardSaid : Prop := Claim7.holds Tryz.pinned (.plain (OpenSpec.ofChange recordTracedSpec)) recordTracedCard

/-- THE TIED CARD OF 'buchholzlaw10.RecordMerges'. -/
def recordMergesCard : Claim7 := { stood := { row := recordMergesRow, standIns := [], harness := (true, "5de75394fcf4071a49d1c426ce9f3e91d107d871be1114e97a52313f088b1c88"), looks := true }, kinds := [], alts := [], laidByText := true, laidKinds := [.data, .data, .data, .data, .sentinel, .sentinel, .widerDeep, .data, .pinned], laidTests := true, laidLooks := .later }
def RecordMergesCardSaid : Prop := Claim7.holds Tryz.pinned (.plain (OpenSpec.ofChange recordMergesSpec)) recordMergesCard

/-- THE TIED CARD OF 'buchholzlaw10.RecordFigures'. -/
def recordFiguresCard : Claim7 := { stood := { row := recordFiguresRow, standIns := [], harness := (true, "5de75394fcf4071a49d1c426ce9f3e91d107d871be1114e97a52313f088b1c88"), looks := true }, kinds := [], alts := [], laidByText := true, laidKinds := [.data, .data, .data, .data, .sentinel, .sentinel, .widerDeep, .data, .pinned], laidTests := true, laidLooks := .later }
def RecordFiguresCardSaid : Prop := Claim7.holds Tryz.pinned (.plain (OpenSpec.ofChange recordFiguresSpec)) recordFiguresCard

/-- THE TIED CARD OF 'buchholzlaw10.RecordUnits'. -/
def recordUnitsCard : Claim7 := { stood := { row := recordUnitsRow, standIns := [], harness := (true, "5de75394fcf4071a49d1c426ce9f3e91d107d871be1114e97a52313f088b1c88"), looks := true }, kinds := [], alts := [], laidByText := true, laidKinds := [.data, .data, .data, .data, .sentinel, .sentinel, .widerDeep, .data, .pinned], laidTests := true, laidLooks := .later }
def RecordUnitsCardSaid : Prop := Claim7.holds Tryz.pinned (.plain (OpenSpec.ofChange recordUnitsSpec)) recordUnitsCard

/-- THE SECOND FORM's CARD OF 'buchholzlaw10.RecordReleased'. -/
def recordReleasedUptoCard : Claim7 := { stood := { row := recordReleasedUptoRow, standIns := [], harness := (true, "5de75394fcf4071a49d1c426ce9f3e91d107d871be1114e97a52313f088b1c88"), looks := true }, kinds := [], alts := [], laidByText := true, laidKinds := [.data, .data, .data, .data, .sentinel, .sentinel, .widerDeep, .data, .pinned], laidTests := true, laidLooks := .later }
def RecordReleasedUptoCardSaid : Prop := Claim7.holds Tryz.pinned (.plain (OpenSpec.upto recordReleasedSpec)) recordReleasedUptoCard

/-- THE SECOND FORM's CARD OF 'buchholzlaw10.RecordTraced'. -/
def recordTracedUptoCard : Claim7 := { stood := { row := recordTracedUptoRow, standIns := [], harness := (true, "5de75394fcf4071a49d1c426ce9f3e91d107d871be1114e97a52313f088b1c88"), looks := true }, kinds := [], alts := [], laidByText := true, laidKinds := [.data, .data, .data, .data, .sentinel, .sentinel, .widerDeep, .data, .pinned], laidTests := true, laidLooks := .later }
def RecordTracedUptoCardSaid : Prop := Claim7.holds Tryz.pinned (.plain (OpenSpec.upto recordTracedSpec)) recordTracedUptoCard

/-- THE SECOND FORM's CARD OF 'buchholzlaw10.RecordMerges'. -/
def recordMergesUptoCard : Claim7 := { stood := { row := recordMergesUptoRow, standIns := [], harness := (true, "5de75394fcf4071a49d1c426ce9f3e91d107d871be1114e97a52313f088b1c88"), looks := true }, kinds := [], alts := [], laidByText := true, laidKinds := [.data, .data, .data, .data, .sentinel, .sentinel, .widerDeep, .data, .pinned], laidTests := true, laidLooks := .later }
def RecordMergesUptoCardSaid : Prop := Claim7.holds Tryz.pinned (.plain (OpenSpec.upto recordMergesSpec)) recordMergesUptoCard

/-- THE SECOND FORM's CARD OF 'buchholzlaw10.RecordFigures'. -/
def recordFiguresUptoCard : Claim7 := { stood := { row := recordFiguresUptoRow, standIns := [], harness := (true, "5de75394fcf4071a49d1c426ce9f3e91d107d871be1114e97a52313f088b1c88"), looks := true }, kinds := [], alts := [], laidByText := true, laidKinds := [.data, .data, .data, .data, .sentinel, .sentinel, .widerDeep, .data, .pinned], laidTests := true, laidLooks := .later }
def RecordFiguresUptoCardSaid : Prop := Claim7.holds Tryz.pinned (.plain (OpenSpec.upto recordFiguresSpec)) recordFiguresUptoCard

/-- THE SECOND FORM's CARD OF 'buchholzlaw10.RecordUnits'. -/
def recordUnitsUptoCard : Claim7 := { stood := { row := recordUnitsUptoRow, standIns := [], harness := (true, "5de75394fcf4071a49d1c426ce9f3e91d107d871be1114e97a52313f088b1c88"), looks := true }, kinds := [], alts := [], laidByText := true, laidKinds := [.data, .data, .data, .data, .sentinel, .sentinel, .widerDeep, .data, .pinned], laidTests := true, laidLooks := .later }
def RecordUnitsUptoCardSaid : Prop := Claim7.holds Tryz.pinned (.plain (OpenSpec.upto recordUnitsSpec)) recordUnitsUptoCard
end Rows
end Go.Proofs.YtackacoaaihcjaaGreatDoor
