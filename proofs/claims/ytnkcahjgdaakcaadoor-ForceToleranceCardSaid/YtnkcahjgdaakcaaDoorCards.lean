/-
  DERIVED. GIVEN WITH THE SEED: THE CARDS: each row of YtnkcahjgdaakcaaDoorRows.lean that lists a variable, with what it lists TIED to the program's text (the seventh form; the later family's looks); each row that meets fmt, with fmt's text TOLD by the authors' own Lean function (tested against real Go, not proved from fmt's source: count such statements apart). THE CARD IS WHAT COUNTS. Prove the row's statement (the work); the ties are given (YtnkcahjgdaakcaaDoorTie.lean); close each card by the builder's one call (the guide's Derived/Test/ToyasCard.lean, 'card_holds'). Laid BY PROGRAM, IN A SANDBOX (cutbox-door.mjs). By AI agents, Wed Nov 11 2026. No macro, syntax, notation, axiom, sorry.
-/
import Derived.Test.YtnkcahjgdaakcaaDoorRows
import GoSem.ClaimSeven
namespace Go.Proofs.YtnkcahjgdaakcaaDoor
namespace Rows

/-- THE TIED CARD OF 'buchholzlaw05.ForceTolerance'. -/
def forceToleranceCard : Claim7 := { stood := { row := forceToleranceRow, standIns := [], harness := (true, "ada9cfe8de891c4dc4537bfcb005e9ce6cd7ccc07681d7925b09e97850b7f5c2"), looks := false }, kinds := [], alts := [], laidByText := true, laidKinds := [.funcs], laidTests := true, laidLooks := .later }
def ForceToleranceCardSaid : Prop := Claim7.holds Tryd.pinned (.plain (OpenSpec.ofChange forceToleranceSpec)) forceToleranceCard

/-- THE TIED CARD OF 'buchholzlaw05.ForceWindows'. -/
def forceWindowsCard : Claim7 := { stood := { row := forceWindowsRow, standIns := [], harness := (true, "ada9cfe8de891c4dc4537bfcb005e9ce6cd7ccc07681d7925b09e97850b7f5c2"), looks := false }, kinds := [], alts := [], laidByText := true, laidKinds := [.funcs], laidTests := true, laidLooks := .later }
def ForceWindowsCardSaid : Prop := Claim7.holds Tryd.pinned (.plain (OpenSpec.ofChange forceWindowsSpec)) forceWindowsCard

/-- THE TIED CARD OF 'buchholzlaw05.ForceNoWorse'. -/
def forceNoWorseCard : Claim7 := { stood := { row := forceNoWorseRow, standIns := [], harness := (true, "ada9cfe8de891c4dc4537bfcb005e9ce6cd7ccc07681d7925b09e97850b7f5c2"), looks := false }, kinds := [], alts := [], laidByText := true, laidKinds := [.funcs], laidTests := true, laidLooks := .later }
def ForceNoWorseCardSaid : Prop := Claim7.holds Tryd.pinned (.plain (OpenSpec.ofChange forceNoWorseSpec)) forceNoWorseCard

/-- THE SECOND FORM's CARD OF 'buchholzlaw05.ForceTolerance'. -/
def forceToleranceUptoCard : Claim7 := { stood := { row := forceToleranceUptoRow, standIns := [], harness := (true, "ada9cfe8de891c4dc4537bfcb005e9ce6cd7ccc07681d7925b09e97850b7f5c2"), looks := false }, kinds := [], alts := [], laidByText := true, laidKinds := [.funcs], laidTests := true, laidLooks := .later }
def ForceToleranceUptoCardSaid : Prop := Claim7.holds Tryd.pinned (.plain (OpenSpec.upto forceToleranceSpec)) forceToleranceUptoCard

/-- THE SECOND FORM's CARD OF 'buchholzlaw05.ForceWindows'. -/
def forceWindowsUptoCard : Claim7 := { stood := { row := forceWindowsUptoRow, standIns := [], harness := (true, "ada9cfe8de891c4dc4537bfcb005e9ce6cd7ccc07681d7925b09e97850b7f5c2"), looks := false }, kinds := [], alts := [], laidByText := true, laidKinds := [.funcs], laidTests := true, laidLooks := .later }
def ForceWindowsUptoCardSaid : Prop := Claim7.holds Tryd.pinned (.plain (OpenSpec.upto forceWindowsSpec)) forceWindowsUptoCard

/-- THE SECOND FORM's CARD OF 'buchholzlaw05.ForceNoWorse'. -/
def forceNoWorseUptoCard : Claim7 := { stood := { row := forceNoWorseUptoRow, standIns := [], harness := (true, "ada9cfe8de891c4dc4537bfcb005e9ce6cd7ccc07681d7925b09e97850b7f5c2"), looks := false }, kinds := [], alts := [], laidByText := true, laidKinds := [.funcs], laidTests := true, laidLooks := .later }
def ForceNoWorseUptoCardSaid : Prop := Claim7.holds Tryd.pinned (.plain (OpenSpec.upto forceNoWorseSpec)) forceNoWorseUptoCard
end Rows
end Go.Proofs.YtnkcahjgdaakcaaDoor
