/-
  NARROWER THAN 'FOR EVERY INPUT', by the rows' own cells (each row's printed sentence says how): WaveChains: laid · WaveEnclosed: laid · WaveEnds: laid · WaveFigures: laid · WaveLosses: laid · WaveFactors: laid · WaveTimes: laid · WaveWider: laid · WaveVoltages: laid · WaveRatios: laid · WaveWitnesses: laid · WaveReported: laid.
  DERIVED. THE GIVEN ROWS OF THIS SEAT. 12 by the template 'for every input the law returns true; each argument reads behind the call as it read before'; 0 by the template 'total and deterministic' (their statements: YtnamnocgjggnmaaDoorTotals.lean).
  GIVEN WITH THE SEED: the statements are not yours to turn. If you find one false, say at which input.
  Laid BY PROGRAM, IN A SANDBOX (cutbox-rows.mjs): the forced cells as the released guide's own fill.sh prints them over the translation f09a93b8a158f4bf… (all of the seat's roots in one cut). By AI agents, Wed Nov 11 2026. No macro, syntax, notation, axiom, sorry.
-/
import Derived.Test.YtnamnocgjggnmaaDoorChecked
import GoSem.Claim
import GoSem.ClaimJoined
import GoSem.ClaimMapViews
import Derived.JoinedTies
import Derived.KernelRfl
namespace Go.Proofs.YtnamnocgjggnmaaDoor
/- THE CELL 'sum', in the pinned program and in every row, IS THE sha256 OF THE DUMP (.gsa) THAT YtnamnocgjggnmaaDoorProg.lean LOADS. Nothing in Lean hashes anything: it is a label: what it is worth is what the hold of that sum in a sandbox is worth. -/
noncomputable def Tryd.pinned : Pinned := { name := "ytnamnocgjggnmaadoor", sum := "f09a93b8a158f4bf4c679691098c678238f0b3f09fb97d12e7b5c0e29fa9447a", checked := Tryd.checked }
namespace Rows
def none {H : Type} : Left H := { results := [], args := [] }

/- WHAT THE LISTED PACKAGE-LEVEL VARIABLES READ AS WHEN THE CALL BEGINS. Each datum BY PROGRAM (the guide's laid-datum.mjs) off the statement by which the dump's own 'gosem.cut.vars' lays the variable. In a bare row this is a premise. The card (YtnamnocgjggnmaaDoorCards.lean) ties it to the program's text. -/
def laid_buchholz_wave_never {H : Type} : DataW H := .agg [.agg [.lit (.int .i64 1), .lit (.int .i64 1)], .agg [.lit (.int .i64 0), .lit (.int .i64 1)]]

/-- 'buchholzlaw08.WaveChains': WHATEVER THE INPUT: true; the input reads as it did. -/
def waveChainsSpec : ChangeSpec := { name := "waveChains", fn := fun _ => fun
  | [d1, d2] => { results := [.lit (.bool true)], args := [d1, d2] }
  | _ => none }
def waveChainsRow : OpenClaim := { program := "ytnamnocgjggnmaadoor", sum := "f09a93b8a158f4bf4c679691098c678238f0b3f09fb97d12e7b5c0e29fa9447a", func := "buchholz/buchholzlaw08.WaveChains", spec := "waveChains", unfollowed := true, recurses := true, named := ["buchholz/wave.never"], apart := false, laid := [("buchholz/wave.never", laid_buchholz_wave_never)] }
def WaveChainsSaid : Prop := waveChainsRow.holds Tryd.pinned (OpenSpec.ofChange waveChainsSpec)

/-- ITS FALSE NEIGHBOUR: 'it returns false'. Refute it at one input. -/
def waveChainsWrong : ChangeSpec := { name := "waveChains", fn := fun _ => fun
  | [d1, d2] => { results := [.lit (.bool false)], args := [d1, d2] }
  | _ => none }
def WaveChainsWrongFalsely : Prop := waveChainsRow.holds Tryd.pinned (OpenSpec.ofChange waveChainsWrong)

/-- 'buchholzlaw08.WaveEnclosed': WHATEVER THE INPUT: true; the input reads as it did. -/
def waveEnclosedSpec : ChangeSpec := { name := "waveEnclosed", fn := fun _ => fun
  | [d1, d2, d3] => { results := [.lit (.bool true)], args := [d1, d2, d3] }
  | _ => none }
def waveEnclosedRow : OpenClaim := { program := "ytnamnocgjggnmaadoor", sum := "f09a93b8a158f4bf4c679691098c678238f0b3f09fb97d12e7b5c0e29fa9447a", func := "buchholz/buchholzlaw08.WaveEnclosed", spec := "waveEnclosed", unfollowed := true, recurses := true, named := ["buchholz/wave.never"], apart := false, laid := [("buchholz/wave.never", laid_buchholz_wave_never)] }
def WaveEnclosedSaid : Prop := waveEnclosedRow.holds Tryd.pinned (OpenSpec.ofChange waveEnclosedSpec)

/-- ITS FALSE NEIGHBOUR: 'it returns false'. Refute it at one input. -/
def waveEnclosedWrong : ChangeSpec := { name := "waveEnclosed", fn := fun _ => fun
  | [d1, d2, d3] => { results := [.lit (.bool false)], args := [d1, d2, d3] }
  | _ => none }
def WaveEnclosedWrongFalsely : Prop := waveEnclosedRow.holds Tryd.pinned (OpenSpec.ofChange waveEnclosedWrong)

/-- 'buchholzlaw08.WaveEnds': WHATEVER THE INPUT: true; the input reads as it did. -/
def waveEndsSpec : ChangeSpec := { name := "waveEnds", fn := fun _ => fun
  | [d1, d2, d3] => { results := [.lit (.bool true)], args := [d1, d2, d3] }
  | _ => none }
def waveEndsRow : OpenClaim := { program := "ytnamnocgjggnmaadoor", sum := "f09a93b8a158f4bf4c679691098c678238f0b3f09fb97d12e7b5c0e29fa9447a", func := "buchholz/buchholzlaw08.WaveEnds", spec := "waveEnds", unfollowed := true, recurses := true, named := ["buchholz/wave.never"], apart := false, laid := [("buchholz/wave.never", laid_buchholz_wave_never)] }
def WaveEndsSaid : Prop := waveEndsRow.holds Tryd.pinned (OpenSpec.ofChange waveEndsSpec)

/-- ITS FALSE NEIGHBOUR: 'it returns false'. Refute it at one input. -/
def waveEndsWrong : ChangeSpec := { name := "waveEnds", fn := fun _ => fun
  | [d1, d2, d3] => { results := [.lit (.bool false)], args := [d1, d2, d3] }
  | _ => none }
def WaveEndsWrongFalsely : Prop := waveEndsRow.holds Tryd.pinned (OpenSpec.ofChange waveEndsWrong)

/-- 'buchholzlaw08.WaveFigures': WHATEVER THE INPUT: true; the input reads as it did. -/
def waveFiguresSpec : ChangeSpec := { name := "waveFigures", fn := fun _ => fun
  | [d1, d2] => { results := [.lit (.bool true)], args := [d1, d2] }
  | _ => none }
def waveFiguresRow : OpenClaim := { program := "ytnamnocgjggnmaadoor", sum := "f09a93b8a158f4bf4c679691098c678238f0b3f09fb97d12e7b5c0e29fa9447a", func := "buchholz/buchholzlaw08.WaveFigures", spec := "waveFigures", unfollowed := true, recurses := true, named := ["buchholz/wave.never"], apart := false, laid := [("buchholz/wave.never", laid_buchholz_wave_never)] }
def WaveFiguresSaid : Prop := waveFiguresRow.holds Tryd.pinned (OpenSpec.ofChange waveFiguresSpec)

/-- ITS FALSE NEIGHBOUR: 'it returns false'. Refute it at one input. -/
def waveFiguresWrong : ChangeSpec := { name := "waveFigures", fn := fun _ => fun
  | [d1, d2] => { results := [.lit (.bool false)], args := [d1, d2] }
  | _ => none }
def WaveFiguresWrongFalsely : Prop := waveFiguresRow.holds Tryd.pinned (OpenSpec.ofChange waveFiguresWrong)

/-- 'buchholzlaw08.WaveLosses': WHATEVER THE INPUT: true; the input reads as it did. -/
def waveLossesSpec : ChangeSpec := { name := "waveLosses", fn := fun _ => fun
  | [d1, d2, d3] => { results := [.lit (.bool true)], args := [d1, d2, d3] }
  | _ => none }
def waveLossesRow : OpenClaim := { program := "ytnamnocgjggnmaadoor", sum := "f09a93b8a158f4bf4c679691098c678238f0b3f09fb97d12e7b5c0e29fa9447a", func := "buchholz/buchholzlaw08.WaveLosses", spec := "waveLosses", unfollowed := true, recurses := true, named := ["buchholz/wave.never"], apart := false, laid := [("buchholz/wave.never", laid_buchholz_wave_never)] }
def WaveLossesSaid : Prop := waveLossesRow.holds Tryd.pinned (OpenSpec.ofChange waveLossesSpec)

/-- ITS FALSE NEIGHBOUR: 'it returns false'. Refute it at one input. -/
def waveLossesWrong : ChangeSpec := { name := "waveLosses", fn := fun _ => fun
  | [d1, d2, d3] => { results := [.lit (.bool false)], args := [d1, d2, d3] }
  | _ => none }
def WaveLossesWrongFalsely : Prop := waveLossesRow.holds Tryd.pinned (OpenSpec.ofChange waveLossesWrong)

/-- 'buchholzlaw08.WaveFactors': WHATEVER THE INPUT: true; the input reads as it did. -/
def waveFactorsSpec : ChangeSpec := { name := "waveFactors", fn := fun _ => fun
  | [d1, d2] => { results := [.lit (.bool true)], args := [d1, d2] }
  | _ => none }
def waveFactorsRow : OpenClaim := { program := "ytnamnocgjggnmaadoor", sum := "f09a93b8a158f4bf4c679691098c678238f0b3f09fb97d12e7b5c0e29fa9447a", func := "buchholz/buchholzlaw08.WaveFactors", spec := "waveFactors", unfollowed := true, recurses := true, named := ["buchholz/wave.never"], apart := false, laid := [("buchholz/wave.never", laid_buchholz_wave_never)] }
def WaveFactorsSaid : Prop := waveFactorsRow.holds Tryd.pinned (OpenSpec.ofChange waveFactorsSpec)

/-- ITS FALSE NEIGHBOUR: 'it returns false'. Refute it at one input. -/
def waveFactorsWrong : ChangeSpec := { name := "waveFactors", fn := fun _ => fun
  | [d1, d2] => { results := [.lit (.bool false)], args := [d1, d2] }
  | _ => none }
def WaveFactorsWrongFalsely : Prop := waveFactorsRow.holds Tryd.pinned (OpenSpec.ofChange waveFactorsWrong)

/-- 'buchholzlaw08.WaveTimes': WHATEVER THE INPUT: true; the input reads as it did. -/
def waveTimesSpec : ChangeSpec := { name := "waveTimes", fn := fun _ => fun
  | [d1, d2] => { results := [.lit (.bool true)], args := [d1, d2] }
  | _ => none }
def waveTimesRow : OpenClaim := { program := "ytnamnocgjggnmaadoor", sum := "f09a93b8a158f4bf4c679691098c678238f0b3f09fb97d12e7b5c0e29fa9447a", func := "buchholz/buchholzlaw08.WaveTimes", spec := "waveTimes", unfollowed := true, recurses := true, named := ["buchholz/wave.never"], apart := false, laid := [("buchholz/wave.never", laid_buchholz_wave_never)] }
def WaveTimesSaid : Prop := waveTimesRow.holds Tryd.pinned (OpenSpec.ofChange waveTimesSpec)

/-- ITS FALSE NEIGHBOUR: 'it returns false'. Refute it at one input. -/
def waveTimesWrong : ChangeSpec := { name := "waveTimes", fn := fun _ => fun
  | [d1, d2] => { results := [.lit (.bool false)], args := [d1, d2] }
  | _ => none }
def WaveTimesWrongFalsely : Prop := waveTimesRow.holds Tryd.pinned (OpenSpec.ofChange waveTimesWrong)

/-- 'buchholzlaw08.WaveWider': WHATEVER THE INPUT: true; the input reads as it did. -/
def waveWiderSpec : ChangeSpec := { name := "waveWider", fn := fun _ => fun
  | [d1, d2, d3] => { results := [.lit (.bool true)], args := [d1, d2, d3] }
  | _ => none }
def waveWiderRow : OpenClaim := { program := "ytnamnocgjggnmaadoor", sum := "f09a93b8a158f4bf4c679691098c678238f0b3f09fb97d12e7b5c0e29fa9447a", func := "buchholz/buchholzlaw08.WaveWider", spec := "waveWider", unfollowed := true, recurses := true, named := ["buchholz/wave.never"], apart := false, laid := [("buchholz/wave.never", laid_buchholz_wave_never)] }
def WaveWiderSaid : Prop := waveWiderRow.holds Tryd.pinned (OpenSpec.ofChange waveWiderSpec)

/-- ITS FALSE NEIGHBOUR: 'it returns false'. Refute it at one input. -/
def waveWiderWrong : ChangeSpec := { name := "waveWider", fn := fun _ => fun
  | [d1, d2, d3] => { results := [.lit (.bool false)], args := [d1, d2, d3] }
  | _ => none }
def WaveWiderWrongFalsely : Prop := waveWiderRow.holds Tryd.pinned (OpenSpec.ofChange waveWiderWrong)

/-- 'buchholzlaw08.WaveVoltages': WHATEVER THE INPUT: true; the input reads as it did. -/
def waveVoltagesSpec : ChangeSpec := { name := "waveVoltages", fn := fun _ => fun
  | [d1, d2, d3] => { results := [.lit (.bool true)], args := [d1, d2, d3] }
  | _ => none }
def waveVoltagesRow : OpenClaim := { program := "ytnamnocgjggnmaadoor", sum := "f09a93b8a158f4bf4c679691098c678238f0b3f09fb97d12e7b5c0e29fa9447a", func := "buchholz/buchholzlaw08.WaveVoltages", spec := "waveVoltages", unfollowed := true, recurses := true, named := ["buchholz/wave.never"], apart := false, laid := [("buchholz/wave.never", laid_buchholz_wave_never)] }
def WaveVoltagesSaid : Prop := waveVoltagesRow.holds Tryd.pinned (OpenSpec.ofChange waveVoltagesSpec)

/-- ITS FALSE NEIGHBOUR: 'it returns false'. Refute it at one input. -/
def waveVoltagesWrong : ChangeSpec := { name := "waveVoltages", fn := fun _ => fun
  | [d1, d2, d3] => { results := [.lit (.bool false)], args := [d1, d2, d3] }
  | _ => none }
def WaveVoltagesWrongFalsely : Prop := waveVoltagesRow.holds Tryd.pinned (OpenSpec.ofChange waveVoltagesWrong)

/-- 'buchholzlaw08.WaveRatios': WHATEVER THE INPUT: true; the input reads as it did. -/
def waveRatiosSpec : ChangeSpec := { name := "waveRatios", fn := fun _ => fun
  | [d1, d2] => { results := [.lit (.bool true)], args := [d1, d2] }
  | _ => none }
def waveRatiosRow : OpenClaim := { program := "ytnamnocgjggnmaadoor", sum := "f09a93b8a158f4bf4c679691098c678238f0b3f09fb97d12e7b5c0e29fa9447a", func := "buchholz/buchholzlaw08.WaveRatios", spec := "waveRatios", unfollowed := true, recurses := true, named := ["buchholz/wave.never"], apart := false, laid := [("buchholz/wave.never", laid_buchholz_wave_never)] }
def WaveRatiosSaid : Prop := waveRatiosRow.holds Tryd.pinned (OpenSpec.ofChange waveRatiosSpec)

/-- ITS FALSE NEIGHBOUR: 'it returns false'. Refute it at one input. -/
def waveRatiosWrong : ChangeSpec := { name := "waveRatios", fn := fun _ => fun
  | [d1, d2] => { results := [.lit (.bool false)], args := [d1, d2] }
  | _ => none }
def WaveRatiosWrongFalsely : Prop := waveRatiosRow.holds Tryd.pinned (OpenSpec.ofChange waveRatiosWrong)

/-- 'buchholzlaw08.WaveWitnesses': WHATEVER THE INPUT: true; the input reads as it did. -/
def waveWitnessesSpec : ChangeSpec := { name := "waveWitnesses", fn := fun _ => fun
  | [d1, d2, d3] => { results := [.lit (.bool true)], args := [d1, d2, d3] }
  | _ => none }
def waveWitnessesRow : OpenClaim := { program := "ytnamnocgjggnmaadoor", sum := "f09a93b8a158f4bf4c679691098c678238f0b3f09fb97d12e7b5c0e29fa9447a", func := "buchholz/buchholzlaw08.WaveWitnesses", spec := "waveWitnesses", unfollowed := true, recurses := true, named := ["buchholz/wave.never"], apart := false, laid := [("buchholz/wave.never", laid_buchholz_wave_never)] }
def WaveWitnessesSaid : Prop := waveWitnessesRow.holds Tryd.pinned (OpenSpec.ofChange waveWitnessesSpec)

/-- ITS FALSE NEIGHBOUR: 'it returns false'. Refute it at one input. -/
def waveWitnessesWrong : ChangeSpec := { name := "waveWitnesses", fn := fun _ => fun
  | [d1, d2, d3] => { results := [.lit (.bool false)], args := [d1, d2, d3] }
  | _ => none }
def WaveWitnessesWrongFalsely : Prop := waveWitnessesRow.holds Tryd.pinned (OpenSpec.ofChange waveWitnessesWrong)

/-- 'buchholzlaw08.WaveReported': WHATEVER THE INPUT: true; the input reads as it did. -/
def waveReportedSpec : ChangeSpec := { name := "waveReported", fn := fun _ => fun
  | [d1, d2, d3] => { results := [.lit (.bool true)], args := [d1, d2, d3] }
  | _ => none }
def waveReportedRow : OpenClaim := { program := "ytnamnocgjggnmaadoor", sum := "f09a93b8a158f4bf4c679691098c678238f0b3f09fb97d12e7b5c0e29fa9447a", func := "buchholz/buchholzlaw08.WaveReported", spec := "waveReported", unfollowed := true, recurses := true, named := ["buchholz/wave.never"], apart := false, laid := [("buchholz/wave.never", laid_buchholz_wave_never)] }
def WaveReportedSaid : Prop := waveReportedRow.holds Tryd.pinned (OpenSpec.ofChange waveReportedSpec)

/-- ITS FALSE NEIGHBOUR: 'it returns false'. Refute it at one input. -/
def waveReportedWrong : ChangeSpec := { name := "waveReported", fn := fun _ => fun
  | [d1, d2, d3] => { results := [.lit (.bool false)], args := [d1, d2, d3] }
  | _ => none }
def WaveReportedWrongFalsely : Prop := waveReportedRow.holds Tryd.pinned (OpenSpec.ofChange waveReportedWrong)

/- THE SECOND FORM. 'bulk': how many values and letters a reading holds, each counted each time it is reached (what is shared counts as often as it is met; a slice's spare places count too). A statement '..UptoSaid' is the law's where the arguments, and the package variables that the reading takes, are together of bulk at most 1048576: NARROWER than '..Said'. Prove '..Said' where nothing that the law and all that it calls make is longer than what came in: it says more and counts as full. Else prove '..UptoSaid'. A law counts once. -/
mutual
def uptoBulk {H : Type} : DataW H → Nat
  | .lit (.string bytes) => bytes.length + 1
  | .lit _ => 1
  | .nil => 1
  | .ptr d => uptoBulk d + 1
  | .slice elems spare => uptoBulkAll elems + uptoBulkAll spare + 1
  | .agg parts => uptoBulkAll parts + 1
  | .iface _ d => uptoBulk d + 1
  | .map entries => uptoBulkEntries entries + 1
  | .held _ => 1
def uptoBulkAll {H : Type} : List (DataW H) → Nat
  | [] => 0
  | d :: r => uptoBulk d + uptoBulkAll r
def uptoBulkEntries {H : Type} : List (Lit × DataW H) → Nat
  | [] => 0
  | x :: r => uptoBulkEntry x + uptoBulkEntries r
def uptoBulkEntry {H : Type} : Lit × DataW H → Nat
  | (.string bytes, d) => bytes.length + uptoBulk d + 1
  | (_, d) => uptoBulk d + 1
 end
def uptoSmall : (H : Type) → List (DataW H) → Bool := fun _ ds => decide (uptoBulkAll ds ≤ 1048576)
def OpenSpec.upto (s : _root_.Go.ChangeSpec) : _root_.Go.OpenSpec := { _root_.Go.OpenSpec.ofChange s with cond := some uptoSmall }

/-- 'buchholzlaw08.WaveChains', WHERE WHAT IT READS IS OF BULK AT MOST 1048576: true; the input reads as it did. -/
def waveChainsUptoRow : OpenClaim := { program := "ytnamnocgjggnmaadoor", sum := "f09a93b8a158f4bf4c679691098c678238f0b3f09fb97d12e7b5c0e29fa9447a", func := "buchholz/buchholzlaw08.WaveChains", spec := "waveChains", unfollowed := true, recurses := true, named := ["buchholz/wave.never"], apart := false, laid := [("buchholz/wave.never", laid_buchholz_wave_never)], narrowed := true }
def WaveChainsUptoSaid : Prop := waveChainsUptoRow.holds Tryd.pinned (OpenSpec.upto waveChainsSpec)

/-- 'buchholzlaw08.WaveEnclosed', WHERE WHAT IT READS IS OF BULK AT MOST 1048576: true; the input reads as it did. -/
def waveEnclosedUptoRow : OpenClaim := { program := "ytnamnocgjggnmaadoor", sum := "f09a93b8a158f4bf4c679691098c678238f0b3f09fb97d12e7b5c0e29fa9447a", func := "buchholz/buchholzlaw08.WaveEnclosed", spec := "waveEnclosed", unfollowed := true, recurses := true, named := ["buchholz/wave.never"], apart := false, laid := [("buchholz/wave.never", laid_buchholz_wave_never)], narrowed := true }
def WaveEnclosedUptoSaid : Prop := waveEnclosedUptoRow.holds Tryd.pinned (OpenSpec.upto waveEnclosedSpec)

/-- 'buchholzlaw08.WaveEnds', WHERE WHAT IT READS IS OF BULK AT MOST 1048576: true; the input reads as it did. -/
def waveEndsUptoRow : OpenClaim := { program := "ytnamnocgjggnmaadoor", sum := "f09a93b8a158f4bf4c679691098c678238f0b3f09fb97d12e7b5c0e29fa9447a", func := "buchholz/buchholzlaw08.WaveEnds", spec := "waveEnds", unfollowed := true, recurses := true, named := ["buchholz/wave.never"], apart := false, laid := [("buchholz/wave.never", laid_buchholz_wave_never)], narrowed := true }
def WaveEndsUptoSaid : Prop := waveEndsUptoRow.holds Tryd.pinned (OpenSpec.upto waveEndsSpec)

/-- 'buchholzlaw08.WaveFigures', WHERE WHAT IT READS IS OF BULK AT MOST 1048576: true; the input reads as it did. -/
def waveFiguresUptoRow : OpenClaim := { program := "ytnamnocgjggnmaadoor", sum := "f09a93b8a158f4bf4c679691098c678238f0b3f09fb97d12e7b5c0e29fa9447a", func := "buchholz/buchholzlaw08.WaveFigures", spec := "waveFigures", unfollowed := true, recurses := true, named := ["buchholz/wave.never"], apart := false, laid := [("buchholz/wave.never", laid_buchholz_wave_never)], narrowed := true }
def WaveFiguresUptoSaid : Prop := waveFiguresUptoRow.holds Tryd.pinned (OpenSpec.upto waveFiguresSpec)

/-- 'buchholzlaw08.WaveLosses', WHERE WHAT IT READS IS OF BULK AT MOST 1048576: true; the input reads as it did. -/
def waveLossesUptoRow : OpenClaim := { program := "ytnamnocgjggnmaadoor", sum := "f09a93b8a158f4bf4c679691098c678238f0b3f09fb97d12e7b5c0e29fa9447a", func := "buchholz/buchholzlaw08.WaveLosses", spec := "waveLosses", unfollowed := true, recurses := true, named := ["buchholz/wave.never"], apart := false, laid := [("buchholz/wave.never", laid_buchholz_wave_never)], narrowed := true }
def WaveLossesUptoSaid : Prop := waveLossesUptoRow.holds Tryd.pinned (OpenSpec.upto waveLossesSpec)

/-- 'buchholzlaw08.WaveFactors', WHERE WHAT IT READS IS OF BULK AT MOST 1048576: true; the input reads as it did. -/
def waveFactorsUptoRow : OpenClaim := { program := "ytnamnocgjggnmaadoor", sum := "f09a93b8a158f4bf4c679691098c678238f0b3f09fb97d12e7b5c0e29fa9447a", func := "buchholz/buchholzlaw08.WaveFactors", spec := "waveFactors", unfollowed := true, recurses := true, named := ["buchholz/wave.never"], apart := false, laid := [("buchholz/wave.never", laid_buchholz_wave_never)], narrowed := true }
def WaveFactorsUptoSaid : Prop := waveFactorsUptoRow.holds Tryd.pinned (OpenSpec.upto waveFactorsSpec)

/-- 'buchholzlaw08.WaveTimes', WHERE WHAT IT READS IS OF BULK AT MOST 1048576: true; the input reads as it did. -/
def waveTimesUptoRow : OpenClaim := { program := "ytnamnocgjggnmaadoor", sum := "f09a93b8a158f4bf4c679691098c678238f0b3f09fb97d12e7b5c0e29fa9447a", func := "buchholz/buchholzlaw08.WaveTimes", spec := "waveTimes", unfollowed := true, recurses := true, named := ["buchholz/wave.never"], apart := false, laid := [("buchholz/wave.never", laid_buchholz_wave_never)], narrowed := true }
def WaveTimesUptoSaid : Prop := waveTimesUptoRow.holds Tryd.pinned (OpenSpec.upto waveTimesSpec)

/-- 'buchholzlaw08.WaveWider', WHERE WHAT IT READS IS OF BULK AT MOST 1048576: true; the input reads as it did. -/
def waveWiderUptoRow : OpenClaim := { program := "ytnamnocgjggnmaadoor", sum := "f09a93b8a158f4bf4c679691098c678238f0b3f09fb97d12e7b5c0e29fa9447a", func := "buchholz/buchholzlaw08.WaveWider", spec := "waveWider", unfollowed := true, recurses := true, named := ["buchholz/wave.never"], apart := false, laid := [("buchholz/wave.never", laid_buchholz_wave_never)], narrowed := true }
def WaveWiderUptoSaid : Prop := waveWiderUptoRow.holds Tryd.pinned (OpenSpec.upto waveWiderSpec)

/-- 'buchholzlaw08.WaveVoltages', WHERE WHAT IT READS IS OF BULK AT MOST 1048576: true; the input reads as it did. -/
def waveVoltagesUptoRow : OpenClaim := { program := "ytnamnocgjggnmaadoor", sum := "f09a93b8a158f4bf4c679691098c678238f0b3f09fb97d12e7b5c0e29fa9447a", func := "buchholz/buchholzlaw08.WaveVoltages", spec := "waveVoltages", unfollowed := true, recurses := true, named := ["buchholz/wave.never"], apart := false, laid := [("buchholz/wave.never", laid_buchholz_wave_never)], narrowed := true }
def WaveVoltagesUptoSaid : Prop := waveVoltagesUptoRow.holds Tryd.pinned (OpenSpec.upto waveVoltagesSpec)

/-- 'buchholzlaw08.WaveRatios', WHERE WHAT IT READS IS OF BULK AT MOST 1048576: true; the input reads as it did. -/
def waveRatiosUptoRow : OpenClaim := { program := "ytnamnocgjggnmaadoor", sum := "f09a93b8a158f4bf4c679691098c678238f0b3f09fb97d12e7b5c0e29fa9447a", func := "buchholz/buchholzlaw08.WaveRatios", spec := "waveRatios", unfollowed := true, recurses := true, named := ["buchholz/wave.never"], apart := false, laid := [("buchholz/wave.never", laid_buchholz_wave_never)], narrowed := true }
def WaveRatiosUptoSaid : Prop := waveRatiosUptoRow.holds Tryd.pinned (OpenSpec.upto waveRatiosSpec)

/-- 'buchholzlaw08.WaveWitnesses', WHERE WHAT IT READS IS OF BULK AT MOST 1048576: true; the input reads as it did. -/
def waveWitnessesUptoRow : OpenClaim := { program := "ytnamnocgjggnmaadoor", sum := "f09a93b8a158f4bf4c679691098c678238f0b3f09fb97d12e7b5c0e29fa9447a", func := "buchholz/buchholzlaw08.WaveWitnesses", spec := "waveWitnesses", unfollowed := true, recurses := true, named := ["buchholz/wave.never"], apart := false, laid := [("buchholz/wave.never", laid_buchholz_wave_never)], narrowed := true }
def WaveWitnessesUptoSaid : Prop := waveWitnessesUptoRow.holds Tryd.pinned (OpenSpec.upto waveWitnessesSpec)

/-- 'buchholzlaw08.WaveReported', WHERE WHAT IT READS IS OF BULK AT MOST 1048576: true; the input reads as it did. -/
def waveReportedUptoRow : OpenClaim := { program := "ytnamnocgjggnmaadoor", sum := "f09a93b8a158f4bf4c679691098c678238f0b3f09fb97d12e7b5c0e29fa9447a", func := "buchholz/buchholzlaw08.WaveReported", spec := "waveReported", unfollowed := true, recurses := true, named := ["buchholz/wave.never"], apart := false, laid := [("buchholz/wave.never", laid_buchholz_wave_never)], narrowed := true }
def WaveReportedUptoSaid : Prop := waveReportedUptoRow.holds Tryd.pinned (OpenSpec.upto waveReportedSpec)

end Rows
end Go.Proofs.YtnamnocgjggnmaaDoor
