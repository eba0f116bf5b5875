/-
  DERIVED. GIVEN WITH THE SEED: THE CARDS: each row of YtnbfdfmphbehoaaGreatDoorRows.lean that lists a variable, with what it lists TIED to the program's text (the seventh form; the later family's looks); each row that meets fmt, with fmt's text TOLD by the authors' own Lean function (tested against real Go, not proved from fmt's source: count such statements apart). THE CARD IS WHAT COUNTS. Prove the row's statement (the work); the ties are given (YtnbfdfmphbehoaaGreatDoorTie.lean); close each card by the builder's one call (the guide's Derived/Test/ToyasCard.lean, 'card_holds'). Laid BY PROGRAM, IN A SANDBOX (cutbox-door.mjs). By AI agents, Wed Nov 11 2026. No macro, syntax, notation, axiom, sorry.
-/
import Derived.Test.YtnbfdfmphbehoaaGreatDoorRows
import GoSem.ClaimSeven
namespace Go.Proofs.YtnbfdfmphbehoaaGreatDoor
namespace Rows

/-- THE TIED CARD OF 'buchholzlaw10.RecordPlants'. -/
def recordPlantsCard : Claim7 := { stood := { row := recordPlantsRow, standIns := [], harness := (true, "52c9fa4b4156480717b8a5c073b659c546183098864b537aa26ae4dfe4be7bf9"), looks := true }, kinds := [], alts := [], laidByText := true, laidKinds := [.data, .data, .data, .data, .sentinel, .sentinel, .widerDeep, .data, .pinned], laidTests := true, laidLooks := .later }
def RecordPlantsCardSaid : Prop := Claim7.holds Tryz.pinned (.plain (OpenSpec.ofChange recordPlantsSpec)) recordPlantsCard

/-- THE TIED CARD OF 'buchholzlaw10.RecordLogs'. -/
def recordLogsCard : Claim7 := { stood := { row := recordLogsRow, standIns := [], harness := (true, "52c9fa4b4156480717b8a5c073b659c546183098864b537aa26ae4dfe4be7bf9"), looks := true }, kinds := [], alts := [], laidByText := true, laidKinds := [.data, .data, .data, .data, .sentinel, .sentinel, .widerDeep, .data, .pinned], laidTests := true, laidLooks := .later }
def RecordLogsCardSaid : Prop := Claim7.holds Tryz.pinned (.plain (OpenSpec.ofChange recordLogsSpec)) recordLogsCard

/-- THE TIED CARD OF 'buchholzlaw10.RecordUnits'. -/
def recordUnitsCard : Claim7 := { stood := { row := recordUnitsRow, standIns := [], harness := (true, "52c9fa4b4156480717b8a5c073b659c546183098864b537aa26ae4dfe4be7bf9"), looks := true }, kinds := [], alts := [], laidByText := true, laidKinds := [.data, .data, .data, .data, .sentinel, .sentinel, .widerDeep, .data, .pinned], laidTests := true, laidLooks := .later }
def RecordUnitsCardSaid : Prop := Claim7.holds Tryz.pinned (.plain (OpenSpec.ofChange recordUnitsSpec)) recordUnitsCard

/-- THE SECOND FORM's CARD OF 'buchholzlaw10.RecordPlants'. -/
def recordPlantsUptoCard : Claim7 := { stood := { row := recordPlantsUptoRow, standIns := [], harness := (true, "52c9fa4b4156480717b8a5c073b659c546183098864b537aa26ae4dfe4be7bf9"), looks := true }, kinds := [], alts := [], laidByText := true, laidKinds := [.data, .data, .data, .data, .sentinel, .sentinel, .widerDeep, .data, .pinned], laidTests := true, laidLooks := .later }
def RecordPlantsUptoCardSaid : Prop := Claim7.holds Tryz.pinned (.plain (OpenSpec.upto recordPlantsSpec)) recordPlantsUptoCard

/-- THE SECOND FORM's CARD OF 'buchholzlaw10.RecordLogs'. -/
def recordLogsUptoCard : Claim7 := { stood := { row := recordLogsUptoRow, standIns := [], harness := (true, "52c9fa4b4156480717b8a5c073b659c546183098864b537aa26ae4dfe4be7bf9"), looks := true }, kinds := [], alts := [], laidByText := true, laidKinds := [.data, .data, .data, .data, .sentinel, .sentinel, .widerDeep, .data, .pinned], laidTests := true, laidLooks := .later }
def RecordLogsUptoCardSaid : Prop := Claim7.holds Tryz.pinned (.plain (OpenSpec.upto recordLogsSpec)) recordLogsUptoCard

/-- THE SECOND FORM's CARD OF 'buchholzlaw10.RecordUnits'. -/
def recordUnitsUptoCard : Claim7 := { stood := { row := recordUnitsUptoRow, standIns := [], harness := (true, "52c9fa4b4156480717b8a5c073b659c546183098864b537aa26ae4dfe4be7bf9"), looks := true }, kinds := [], alts := [], laidByText := true, laidKinds := [.data, .data, .data, .data, .sentinel, .sentinel, .widerDeep, .data, .pinned], laidTests := true, laidLooks := .later }
def RecordUnitsUptoCardSaid : Prop := Claim7.holds Tryz.pinned (.plain (OpenSpec.upto recordUnitsSpec)) recordUnitsUptoCard
end Rows
end Go.Proofs.YtnbfdfmphbehoaaGreatDoor
