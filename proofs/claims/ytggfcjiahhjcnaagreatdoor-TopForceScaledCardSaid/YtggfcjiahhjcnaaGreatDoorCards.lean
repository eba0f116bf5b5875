/-
  DERIVED. GIVEN WITH THE SEED: THE CARDS: each row of YtggfcjiahhjcnaaGreatDoorRows.lean that lists a variable, with what it lists TIED to the program's text (the seventh form; the later family's looks); each row that meets fmt, with fmt's text TOLD by the authors' own Lean function (tested against real Go, not proved from fmt's source: count such statements apart). THE CARD IS WHAT COUNTS. Prove the row's statement (the work); the ties are given (YtggfcjiahhjcnaaGreatDoorTie.lean); close each card by the builder's one call (the guide's Derived/Test/ToyasCard.lean, 'card_holds'). Laid BY PROGRAM, IN A SANDBOX (cutbox-door.mjs). By AI agents, Wed Nov 11 2026. No macro, syntax, notation, axiom, sorry.
-/
import Derived.Test.YtggfcjiahhjcnaaGreatDoorRows
import GoSem.ClaimSeven
namespace Go.Proofs.YtggfcjiahhjcnaaGreatDoor
namespace Rows

/-- THE TIED CARD OF 'buchholztop.TopForceScaled'. -/
def topForceScaledCard : Claim7 := { stood := { row := topForceScaledRow, standIns := [], harness := (true, "1416de5aecb1674a172fc5e3f72117cd8806fa81243b22414cd9d9bb358ac214"), looks := true }, kinds := [], alts := [], laidByText := true, laidKinds := [.data, .data, .data, .data, .sentinel, .sentinel, .funcs, .pinned], laidTests := true, laidLooks := .later }
def TopForceScaledCardSaid : Prop := Claim7.holds Tryz.pinned (.plain (OpenSpec.ofChange topForceScaledSpec)) topForceScaledCard

/-- THE SECOND FORM's CARD OF 'buchholztop.TopForceScaled'. -/
def topForceScaledUptoCard : Claim7 := { stood := { row := topForceScaledUptoRow, standIns := [], harness := (true, "1416de5aecb1674a172fc5e3f72117cd8806fa81243b22414cd9d9bb358ac214"), looks := true }, kinds := [], alts := [], laidByText := true, laidKinds := [.data, .data, .data, .data, .sentinel, .sentinel, .funcs, .pinned], laidTests := true, laidLooks := .later }
def TopForceScaledUptoCardSaid : Prop := Claim7.holds Tryz.pinned (.plain (OpenSpec.upto topForceScaledSpec)) topForceScaledUptoCard
end Rows
end Go.Proofs.YtggfcjiahhjcnaaGreatDoor
