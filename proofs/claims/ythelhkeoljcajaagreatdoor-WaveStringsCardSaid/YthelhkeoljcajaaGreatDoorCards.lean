/-
  DERIVED. GIVEN WITH THE SEED: THE CARDS: each row of YthelhkeoljcajaaGreatDoorRows.lean that lists a variable, with what it lists TIED to the program's text (the seventh form; the later family's looks); each row that meets fmt, with fmt's text TOLD by the authors' own Lean function (tested against real Go, not proved from fmt's source: count such statements apart). THE CARD IS WHAT COUNTS. Prove the row's statement (the work); the ties are given (YthelhkeoljcajaaGreatDoorTie.lean); close each card by the builder's one call (the guide's Derived/Test/ToyasCard.lean, 'card_holds'). Laid BY PROGRAM, IN A SANDBOX (cutbox-door.mjs). By AI agents, Wed Nov 11 2026. No macro, syntax, notation, axiom, sorry.
-/
import Derived.Test.YthelhkeoljcajaaGreatDoorRows
import GoSem.ClaimSeven
namespace Go.Proofs.YthelhkeoljcajaaGreatDoor
namespace Rows

/-- THE TIED CARD OF 'buchholzlaw08.WaveStrings'. -/
def waveStringsCard : Claim7 := { stood := { row := waveStringsRow, standIns := [], harness := (true, "0ba87372e98573e9ffded89178a4a0a8cdaed50379d117c4b71063134d007c90"), looks := true }, kinds := [], alts := [], laidByText := true, laidKinds := [.data, .data, .data, .data, .sentinel, .sentinel, .data, .pinned], laidTests := true, laidLooks := .later }
def WaveStringsCardSaid : Prop := Claim7.holds Tryz.pinned (.plain (OpenSpec.ofChange waveStringsSpec)) waveStringsCard

/-- THE SECOND FORM's CARD OF 'buchholzlaw08.WaveStrings'. -/
def waveStringsUptoCard : Claim7 := { stood := { row := waveStringsUptoRow, standIns := [], harness := (true, "0ba87372e98573e9ffded89178a4a0a8cdaed50379d117c4b71063134d007c90"), looks := true }, kinds := [], alts := [], laidByText := true, laidKinds := [.data, .data, .data, .data, .sentinel, .sentinel, .data, .pinned], laidTests := true, laidLooks := .later }
def WaveStringsUptoCardSaid : Prop := Claim7.holds Tryz.pinned (.plain (OpenSpec.upto waveStringsSpec)) waveStringsUptoCard
end Rows
end Go.Proofs.YthelhkeoljcajaaGreatDoor
