/-
  DERIVED. GIVEN WITH THE SEED: THE CARDS: each row of YtipakjlkkefljaaGreatDoorRows.lean that lists a variable, with what it lists TIED to the program's text (the seventh form; the later family's looks); each row that meets fmt, with fmt's text TOLD by the authors' own Lean function (tested against real Go, not proved from fmt's source: count such statements apart). THE CARD IS WHAT COUNTS. Prove the row's statement (the work); the ties are given (YtipakjlkkefljaaGreatDoorTie.lean); close each card by the builder's one call (the guide's Derived/Test/ToyasCard.lean, 'card_holds'). Laid BY PROGRAM, IN A SANDBOX (cutbox-door.mjs). By AI agents, Wed Nov 11 2026. No macro, syntax, notation, axiom, sorry.
-/
import Derived.Test.YtipakjlkkefljaaGreatDoorRows
import GoSem.ClaimSeven
namespace Go.Proofs.YtipakjlkkefljaaGreatDoor
namespace Rows

/-- THE TIED CARD OF 'buchholzlaw05.ForceStrings'. -/
def forceStringsCard : Claim7 := { stood := { row := forceStringsRow, standIns := [], harness := (true, "00e48c37d5fbb8bf5daedaaca238cd83c52b85c8a13416269ad51b49bd5e3764"), looks := true }, kinds := [], alts := [], laidByText := true, laidKinds := [.data, .data, .data, .data, .sentinel, .sentinel, .pinned], laidTests := true, laidLooks := .later }
def ForceStringsCardSaid : Prop := Claim7.holds Tryz.pinned (.plain (OpenSpec.ofChange forceStringsSpec)) forceStringsCard

/-- THE SECOND FORM's CARD OF 'buchholzlaw05.ForceStrings'. -/
def forceStringsUptoCard : Claim7 := { stood := { row := forceStringsUptoRow, standIns := [], harness := (true, "00e48c37d5fbb8bf5daedaaca238cd83c52b85c8a13416269ad51b49bd5e3764"), looks := true }, kinds := [], alts := [], laidByText := true, laidKinds := [.data, .data, .data, .data, .sentinel, .sentinel, .pinned], laidTests := true, laidLooks := .later }
def ForceStringsUptoCardSaid : Prop := Claim7.holds Tryz.pinned (.plain (OpenSpec.upto forceStringsSpec)) forceStringsUptoCard
end Rows
end Go.Proofs.YtipakjlkkefljaaGreatDoor
