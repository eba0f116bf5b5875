/-
  DERIVED. GIVEN WITH THE SEED: THE CARDS: each row of YtdfdgnggbekhnaaGreatDoorRows.lean that lists a variable, with what it lists TIED to the program's text (the seventh form; the later family's looks); each row that meets fmt, with fmt's text TOLD by the authors' own Lean function (tested against real Go, not proved from fmt's source: count such statements apart). THE CARD IS WHAT COUNTS. Prove the row's statement (the work); the ties are given (YtdfdgnggbekhnaaGreatDoorTie.lean); close each card by the builder's one call (the guide's Derived/Test/ToyasCard.lean, 'card_holds'). Laid BY PROGRAM, IN A SANDBOX (cutbox-door.mjs). By AI agents, Wed Nov 11 2026. No macro, syntax, notation, axiom, sorry.
-/
import Derived.Test.YtdfdgnggbekhnaaGreatDoorRows
import GoSem.ClaimSeven
namespace Go.Proofs.YtdfdgnggbekhnaaGreatDoor
namespace Rows

/-- THE TIED CARD OF 'buchholzlaw10.RecordPlants'. -/
def recordPlantsCard : Claim7 := { stood := { row := recordPlantsRow, standIns := [], harness := (true, "1bad642fbba7ef6c0931803cb05a158f095ac72c07f02f5fb2839c79fb2b9fdf"), looks := true }, kinds := [], alts := [], laidByText := true, laidKinds := [.data, .data, .data, .data, .sentinel, .sentinel, .widerDeep, .data, .pinned], laidTests := true, laidLooks := .later }
def RecordPlantsCardSaid : Prop := Claim7.holds Tryz.pinned (.plain (OpenSpec.ofChange recordPlantsSpec)) recordPlantsCard

/-- THE TIED CARD OF 'buchholzlaw10.RecordGases'. -/
def recordGasesCard : Claim7 := { stood := { row := recordGasesRow, standIns := [], harness := (true, "1bad642fbba7ef6c0931803cb05a158f095ac72c07f02f5fb2839c79fb2b9fdf"), looks := true }, kinds := [], alts := [], laidByText := true, laidKinds := [.data, .data, .data, .data, .sentinel, .sentinel, .widerDeep, .data, .pinned], laidTests := true, laidLooks := .later }
def RecordGasesCardSaid : Prop := Claim7.holds Tryz.pinned (.plain (OpenSpec.ofChange recordGasesSpec)) recordGasesCard

/-- THE TIED CARD OF 'buchholzlaw10.RecordAges'. -/
def recordAgesCard : Claim7 := { stood := { row := recordAgesRow, standIns := [], harness := (true, "1bad642fbba7ef6c0931803cb05a158f095ac72c07f02f5fb2839c79fb2b9fdf"), looks := true }, kinds := [], alts := [], laidByText := true, laidKinds := [.data, .data, .data, .data, .sentinel, .sentinel, .widerDeep, .data, .pinned], laidTests := true, laidLooks := .later }
def RecordAgesCardSaid : Prop := Claim7.holds Tryz.pinned (.plain (OpenSpec.ofChange recordAgesSpec)) recordAgesCard

/-- THE SECOND FORM's CARD OF 'buchholzlaw10.RecordPlants'. -/
def recordPlantsUptoCard : Claim7 := { stood := { row := recordPlantsUptoRow, standIns := [], harness := (true, "1bad642fbba7ef6c0931803cb05a158f095ac72c07f02f5fb2839c79fb2b9fdf"), looks := true }, kinds := [], alts := [], laidByText := true, laidKinds := [.data, .data, .data, .data, .sentinel, .sentinel, .widerDeep, .data, .pinned], laidTests := true, laidLooks := .later }
def RecordPlantsUptoCardSaid : Prop := Claim7.holds Tryz.pinned (.plain (OpenSpec.upto recordPlantsSpec)) recordPlantsUptoCard

/-- THE SECOND FORM's CARD OF 'buchholzlaw10.RecordGases'. -/
def recordGasesUptoCard : Claim7 := { stood := { row := recordGasesUptoRow, standIns := [], harness := (true, "1bad642fbba7ef6c0931803cb05a158f095ac72c07f02f5fb2839c79fb2b9fdf"), looks := true }, kinds := [], alts := [], laidByText := true, laidKinds := [.data, .data, .data, .data, .sentinel, .sentinel, .widerDeep, .data, .pinned], laidTests := true, laidLooks := .later }
def RecordGasesUptoCardSaid : Prop := Claim7.holds Tryz.pinned (.plain (OpenSpec.upto recordGasesSpec)) recordGasesUptoCard

/-- THE SECOND FORM's CARD OF 'buchholzlaw10.RecordAges'. -/
def recordAgesUptoCard : Claim7 := { stood := { row := recordAgesUptoRow, standIns := [], harness := (true, "1bad642fbba7ef6c0931803cb05a158f095ac72c07f02f5fb2839c79fb2b9fdf"), looks := true }, kinds := [], alts := [], laidByText := true, laidKinds := [.data, .data, .data, .data, .sentinel, .sentinel, .widerDeep, .data, .pinned], laidTests := true, laidLooks := .later }
def RecordAgesUptoCardSaid : Prop := Claim7.holds Tryz.pinned (.plain (OpenSpec.upto recordAgesSpec)) recordAgesUptoCard
end Rows
end Go.Proofs.YtdfdgnggbekhnaaGreatDoor
