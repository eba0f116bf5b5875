/-
  DERIVED. GIVEN WITH THE SEED: THE CARDS: each row of YtflcnhmckeiacaaDoorRows.lean that lists a variable, with what it lists TIED to the program's text (the seventh form; the later family's looks); each row that meets fmt, with fmt's text TOLD by the authors' own Lean function (tested against real Go, not proved from fmt's source: count such statements apart). THE CARD IS WHAT COUNTS. Prove the row's statement (the work); the ties are given (YtflcnhmckeiacaaDoorTie.lean); close each card by the builder's one call (the guide's Derived/Test/ToyasCard.lean, 'card_holds'). Laid BY PROGRAM, IN A SANDBOX (cutbox-door.mjs). By AI agents, Wed Nov 11 2026. No macro, syntax, notation, axiom, sorry.
-/
import Derived.Test.YtflcnhmckeiacaaDoorRows
import GoSem.ClaimSeven
namespace Go.Proofs.YtflcnhmckeiacaaDoor
namespace Rows

/-- THE TIED CARD OF 'buchholztop.TopForceHeld'. -/
def topForceHeldCard : Claim7 := { stood := { row := topForceHeldRow, standIns := [], harness := (true, "219df623c62170a6e02429d11b028d96bbdac4235b5116a26f04919377ece50b"), looks := false }, kinds := [], alts := [], laidByText := true, laidKinds := [.funcs], laidTests := true, laidLooks := .later }
def TopForceHeldCardSaid : Prop := Claim7.holds Tryd.pinned (.plain (OpenSpec.ofChange topForceHeldSpec)) topForceHeldCard

/-- THE TIED CARD OF 'buchholzlaw05.ForceNoWorse'. -/
def forceNoWorseCard : Claim7 := { stood := { row := forceNoWorseRow, standIns := [], harness := (true, "219df623c62170a6e02429d11b028d96bbdac4235b5116a26f04919377ece50b"), looks := false }, kinds := [], alts := [], laidByText := true, laidKinds := [.funcs], laidTests := true, laidLooks := .later }
def ForceNoWorseCardSaid : Prop := Claim7.holds Tryd.pinned (.plain (OpenSpec.ofChange forceNoWorseSpec)) forceNoWorseCard

/-- THE SECOND FORM's CARD OF 'buchholztop.TopForceHeld'. -/
def topForceHeldUptoCard : Claim7 := { stood := { row := topForceHeldUptoRow, standIns := [], harness := (true, "219df623c62170a6e02429d11b028d96bbdac4235b5116a26f04919377ece50b"), looks := false }, kinds := [], alts := [], laidByText := true, laidKinds := [.funcs], laidTests := true, laidLooks := .later }
def TopForceHeldUptoCardSaid : Prop := Claim7.holds Tryd.pinned (.plain (OpenSpec.upto topForceHeldSpec)) topForceHeldUptoCard

/-- THE SECOND FORM's CARD OF 'buchholzlaw05.ForceNoWorse'. -/
def forceNoWorseUptoCard : Claim7 := { stood := { row := forceNoWorseUptoRow, standIns := [], harness := (true, "219df623c62170a6e02429d11b028d96bbdac4235b5116a26f04919377ece50b"), looks := false }, kinds := [], alts := [], laidByText := true, laidKinds := [.funcs], laidTests := true, laidLooks := .later }
def ForceNoWorseUptoCardSaid : Prop := Claim7.holds Tryd.pinned (.plain (OpenSpec.upto forceNoWorseSpec)) forceNoWorseUptoCard
end Rows
end Go.Proofs.YtflcnhmckeiacaaDoor
