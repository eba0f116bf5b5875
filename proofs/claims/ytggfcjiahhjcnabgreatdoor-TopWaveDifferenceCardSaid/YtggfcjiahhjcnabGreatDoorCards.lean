/-
  DERIVED. GIVEN WITH THE SEED: THE CARDS: each row of YtggfcjiahhjcnabGreatDoorRows.lean that lists a variable, with what it lists TIED to the program's text (the seventh form; the later family's looks); each row that meets fmt, with fmt's text TOLD by the authors' own Lean function (tested against real Go, not proved from fmt's source: count such statements apart). THE CARD IS WHAT COUNTS. Prove the row's statement (the work); the ties are given (YtggfcjiahhjcnabGreatDoorTie.lean); close each card by the builder's one call (the guide's Derived/Test/ToyasCard.lean, 'card_holds'). Laid BY PROGRAM, IN A SANDBOX (cutbox-door.mjs). By AI agents, Wed Nov 11 2026. No macro, syntax, notation, axiom, sorry.
-/
import Derived.Test.YtggfcjiahhjcnabGreatDoorRows
import GoSem.ClaimSeven
namespace Go.Proofs.YtggfcjiahhjcnabGreatDoor
namespace Rows

/-- THE TIED CARD OF 'buchholztop.TopWaveDifference'. -/
def topWaveDifferenceCard : Claim7 := { stood := { row := topWaveDifferenceRow, standIns := [], harness := (true, "a9440986badb45e59d431bd686fbfaccf872b87f2df421c981e4671061f0eb8f"), looks := true }, kinds := [], alts := [], laidByText := true, laidKinds := [.data, .data, .data, .data, .sentinel, .sentinel, .data, .pinned], laidTests := true, laidLooks := .later }
def TopWaveDifferenceCardSaid : Prop := Claim7.holds Tryz.pinned (.plain (OpenSpec.ofChange topWaveDifferenceSpec)) topWaveDifferenceCard

/-- THE SECOND FORM's CARD OF 'buchholztop.TopWaveDifference'. -/
def topWaveDifferenceUptoCard : Claim7 := { stood := { row := topWaveDifferenceUptoRow, standIns := [], harness := (true, "a9440986badb45e59d431bd686fbfaccf872b87f2df421c981e4671061f0eb8f"), looks := true }, kinds := [], alts := [], laidByText := true, laidKinds := [.data, .data, .data, .data, .sentinel, .sentinel, .data, .pinned], laidTests := true, laidLooks := .later }
def TopWaveDifferenceUptoCardSaid : Prop := Claim7.holds Tryz.pinned (.plain (OpenSpec.upto topWaveDifferenceSpec)) topWaveDifferenceUptoCard
end Rows
end Go.Proofs.YtggfcjiahhjcnabGreatDoor
