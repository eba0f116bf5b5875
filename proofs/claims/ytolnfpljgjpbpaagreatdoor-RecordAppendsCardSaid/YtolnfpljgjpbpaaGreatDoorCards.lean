/-
  DERIVED. GIVEN WITH THE SEED: THE CARDS: each row of YtolnfpljgjpbpaaGreatDoorRows.lean that lists a variable, with what it lists TIED to the program's text (the seventh form; the later family's looks); each row that meets fmt, with fmt's text TOLD by the authors' own Lean function (tested against real Go, not proved from fmt's source: count such statements apart). THE CARD IS WHAT COUNTS. Prove the row's statement (the work); the ties are given (YtolnfpljgjpbpaaGreatDoorTie.lean); close each card by the builder's one call (the guide's Derived/Test/ToyasCard.lean, 'card_holds'). Laid BY PROGRAM, IN A SANDBOX (cutbox-door.mjs). By AI agents, Wed Nov 11 2026. No macro, syntax, notation, axiom, sorry.
-/
import Derived.Test.YtolnfpljgjpbpaaGreatDoorRows
import GoSem.ClaimSeven
namespace Go.Proofs.YtolnfpljgjpbpaaGreatDoor
namespace Rows

/-- THE TIED CARD OF 'buchholzlaw10.RecordLocked'. -/
def recordLockedCard : Claim7 := { stood := { row := recordLockedRow, standIns := [], harness := (true, "c4e3e1b251f09b66eee75dbaad17e04f2a1a0b7866e8dcc4d50543ef596e48e1"), looks := true }, kinds := [], alts := [], laidByText := true, laidKinds := [.data, .data, .data, .data, .sentinel, .sentinel, .widerDeep, .data, .pinned], laidTests := true, laidLooks := .later }
def RecordLockedCardSaid : Prop := Claim7.holds Tryz.pinned (.plain (OpenSpec.ofChange recordLockedSpec)) recordLockedCard

/-- THE TIED CARD OF 'buchholzlaw10.RecordLogs'. -/
def recordLogsCard : Claim7 := { stood := { row := recordLogsRow, standIns := [], harness := (true, "c4e3e1b251f09b66eee75dbaad17e04f2a1a0b7866e8dcc4d50543ef596e48e1"), looks := true }, kinds := [], alts := [], laidByText := true, laidKinds := [.data, .data, .data, .data, .sentinel, .sentinel, .widerDeep, .data, .pinned], laidTests := true, laidLooks := .later }
def RecordLogsCardSaid : Prop := Claim7.holds Tryz.pinned (.plain (OpenSpec.ofChange recordLogsSpec)) recordLogsCard

/-- THE TIED CARD OF 'buchholzlaw10.RecordAppends'. -/
def recordAppendsCard : Claim7 := { stood := { row := recordAppendsRow, standIns := [], harness := (true, "c4e3e1b251f09b66eee75dbaad17e04f2a1a0b7866e8dcc4d50543ef596e48e1"), looks := true }, kinds := [], alts := [], laidByText := true, laidKinds := [.data, .data, .data, .data, .sentinel, .sentinel, .widerDeep, .data, .pinned], laidTests := true, laidLooks := .later }
def RecordAppendsCardSaid : Prop := Claim7.holds Tryz.pinned (.plain (OpenSpec.ofChange recordAppendsSpec)) recordAppendsCard

/-- THE SECOND FORM's CARD OF 'buchholzlaw10.RecordLocked'. -/
def recordLockedUptoCard : Claim7 := { stood := { row := recordLockedUptoRow, standIns := [], harness := (true, "c4e3e1b251f09b66eee75dbaad17e04f2a1a0b7866e8dcc4d50543ef596e48e1"), looks := true }, kinds := [], alts := [], laidByText := true, laidKinds := [.data, .data, .data, .data, .sentinel, .sentinel, .widerDeep, .data, .pinned], laidTests := true, laidLooks := .later }
def RecordLockedUptoCardSaid : Prop := Claim7.holds Tryz.pinned (.plain (OpenSpec.upto recordLockedSpec)) recordLockedUptoCard

/-- THE SECOND FORM's CARD OF 'buchholzlaw10.RecordLogs'. -/
def recordLogsUptoCard : Claim7 := { stood := { row := recordLogsUptoRow, standIns := [], harness := (true, "c4e3e1b251f09b66eee75dbaad17e04f2a1a0b7866e8dcc4d50543ef596e48e1"), looks := true }, kinds := [], alts := [], laidByText := true, laidKinds := [.data, .data, .data, .data, .sentinel, .sentinel, .widerDeep, .data, .pinned], laidTests := true, laidLooks := .later }
def RecordLogsUptoCardSaid : Prop := Claim7.holds Tryz.pinned (.plain (OpenSpec.upto recordLogsSpec)) recordLogsUptoCard

/-- THE SECOND FORM's CARD OF 'buchholzlaw10.RecordAppends'. -/
def recordAppendsUptoCard : Claim7 := { stood := { row := recordAppendsUptoRow, standIns := [], harness := (true, "c4e3e1b251f09b66eee75dbaad17e04f2a1a0b7866e8dcc4d50543ef596e48e1"), looks := true }, kinds := [], alts := [], laidByText := true, laidKinds := [.data, .data, .data, .data, .sentinel, .sentinel, .widerDeep, .data, .pinned], laidTests := true, laidLooks := .later }
def RecordAppendsUptoCardSaid : Prop := Claim7.holds Tryz.pinned (.plain (OpenSpec.upto recordAppendsSpec)) recordAppendsUptoCard
end Rows
end Go.Proofs.YtolnfpljgjpbpaaGreatDoor
