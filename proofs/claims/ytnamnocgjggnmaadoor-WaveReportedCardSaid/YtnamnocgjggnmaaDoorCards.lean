/-
  DERIVED. GIVEN WITH THE SEED: THE CARDS: each row of YtnamnocgjggnmaaDoorRows.lean that lists a variable, with what it lists TIED to the program's text (the seventh form; the later family's looks); each row that meets fmt, with fmt's text TOLD by the authors' own Lean function (tested against real Go, not proved from fmt's source: count such statements apart). THE CARD IS WHAT COUNTS. Prove the row's statement (the work); the ties are given (YtnamnocgjggnmaaDoorTie.lean); close each card by the builder's one call (the guide's Derived/Test/ToyasCard.lean, 'card_holds'). Laid BY PROGRAM, IN A SANDBOX (cutbox-door.mjs). By AI agents, Wed Nov 11 2026. No macro, syntax, notation, axiom, sorry.
-/
import Derived.Test.YtnamnocgjggnmaaDoorRows
import GoSem.ClaimSeven
namespace Go.Proofs.YtnamnocgjggnmaaDoor
namespace Rows

/-- THE TIED CARD OF 'buchholzlaw08.WaveChains'. -/
def waveChainsCard : Claim7 := { stood := { row := waveChainsRow, standIns := [], harness := (true, "a0ac937db1b87eb7c11dd0dc71315b0af60e3f8de940ef982570c982c7ff4971"), looks := false }, kinds := [], alts := [], laidByText := true, laidKinds := [.data], laidTests := true, laidLooks := .later }
def WaveChainsCardSaid : Prop := Claim7.holds Tryd.pinned (.plain (OpenSpec.ofChange waveChainsSpec)) waveChainsCard

/-- THE TIED CARD OF 'buchholzlaw08.WaveEnclosed'. -/
def waveEnclosedCard : Claim7 := { stood := { row := waveEnclosedRow, standIns := [], harness := (true, "a0ac937db1b87eb7c11dd0dc71315b0af60e3f8de940ef982570c982c7ff4971"), looks := false }, kinds := [], alts := [], laidByText := true, laidKinds := [.data], laidTests := true, laidLooks := .later }
def WaveEnclosedCardSaid : Prop := Claim7.holds Tryd.pinned (.plain (OpenSpec.ofChange waveEnclosedSpec)) waveEnclosedCard

/-- THE TIED CARD OF 'buchholzlaw08.WaveEnds'. -/
def waveEndsCard : Claim7 := { stood := { row := waveEndsRow, standIns := [], harness := (true, "a0ac937db1b87eb7c11dd0dc71315b0af60e3f8de940ef982570c982c7ff4971"), looks := false }, kinds := [], alts := [], laidByText := true, laidKinds := [.data], laidTests := true, laidLooks := .later }
def WaveEndsCardSaid : Prop := Claim7.holds Tryd.pinned (.plain (OpenSpec.ofChange waveEndsSpec)) waveEndsCard

/-- THE TIED CARD OF 'buchholzlaw08.WaveFigures'. -/
def waveFiguresCard : Claim7 := { stood := { row := waveFiguresRow, standIns := [], harness := (true, "a0ac937db1b87eb7c11dd0dc71315b0af60e3f8de940ef982570c982c7ff4971"), looks := false }, kinds := [], alts := [], laidByText := true, laidKinds := [.data], laidTests := true, laidLooks := .later }
def WaveFiguresCardSaid : Prop := Claim7.holds Tryd.pinned (.plain (OpenSpec.ofChange waveFiguresSpec)) waveFiguresCard

/-- THE TIED CARD OF 'buchholzlaw08.WaveLosses'. -/
def waveLossesCard : Claim7 := { stood := { row := waveLossesRow, standIns := [], harness := (true, "a0ac937db1b87eb7c11dd0dc71315b0af60e3f8de940ef982570c982c7ff4971"), looks := false }, kinds := [], alts := [], laidByText := true, laidKinds := [.data], laidTests := true, laidLooks := .later }
def WaveLossesCardSaid : Prop := Claim7.holds Tryd.pinned (.plain (OpenSpec.ofChange waveLossesSpec)) waveLossesCard

/-- THE TIED CARD OF 'buchholzlaw08.WaveFactors'. -/
def waveFactorsCard : Claim7 := { stood := { row := waveFactorsRow, standIns := [], harness := (true, "a0ac937db1b87eb7c11dd0dc71315b0af60e3f8de940ef982570c982c7ff4971"), looks := false }, kinds := [], alts := [], laidByText := true, laidKinds := [.data], laidTests := true, laidLooks := .later }
def WaveFactorsCardSaid : Prop := Claim7.holds Tryd.pinned (.plain (OpenSpec.ofChange waveFactorsSpec)) waveFactorsCard

/-- THE TIED CARD OF 'buchholzlaw08.WaveTimes'. -/
def waveTimesCard : Claim7 := { stood := { row := waveTimesRow, standIns := [], harness := (true, "a0ac937db1b87eb7c11dd0dc71315b0af60e3f8de940ef982570c982c7ff4971"), looks := false }, kinds := [], alts := [], laidByText := true, laidKinds := [.data], laidTests := true, laidLooks := .later }
def WaveTimesCardSaid : Prop := Claim7.holds Tryd.pinned (.plain (OpenSpec.ofChange waveTimesSpec)) waveTimesCard

/-- THE TIED CARD OF 'buchholzlaw08.WaveWider'. -/
def waveWiderCard : Claim7 := { stood := { row := waveWiderRow, standIns := [], harness := (true, "a0ac937db1b87eb7c11dd0dc71315b0af60e3f8de940ef982570c982c7ff4971"), looks := false }, kinds := [], alts := [], laidByText := true, laidKinds := [.data], laidTests := true, laidLooks := .later }
def WaveWiderCardSaid : Prop := Claim7.holds Tryd.pinned (.plain (OpenSpec.ofChange waveWiderSpec)) waveWiderCard

/-- THE TIED CARD OF 'buchholzlaw08.WaveVoltages'. -/
def waveVoltagesCard : Claim7 := { stood := { row := waveVoltagesRow, standIns := [], harness := (true, "a0ac937db1b87eb7c11dd0dc71315b0af60e3f8de940ef982570c982c7ff4971"), looks := false }, kinds := [], alts := [], laidByText := true, laidKinds := [.data], laidTests := true, laidLooks := .later }
def WaveVoltagesCardSaid : Prop := Claim7.holds Tryd.pinned (.plain (OpenSpec.ofChange waveVoltagesSpec)) waveVoltagesCard

/-- THE TIED CARD OF 'buchholzlaw08.WaveRatios'. -/
def waveRatiosCard : Claim7 := { stood := { row := waveRatiosRow, standIns := [], harness := (true, "a0ac937db1b87eb7c11dd0dc71315b0af60e3f8de940ef982570c982c7ff4971"), looks := false }, kinds := [], alts := [], laidByText := true, laidKinds := [.data], laidTests := true, laidLooks := .later }
def WaveRatiosCardSaid : Prop := Claim7.holds Tryd.pinned (.plain (OpenSpec.ofChange waveRatiosSpec)) waveRatiosCard

/-- THE TIED CARD OF 'buchholzlaw08.WaveWitnesses'. -/
def waveWitnessesCard : Claim7 := { stood := { row := waveWitnessesRow, standIns := [], harness := (true, "a0ac937db1b87eb7c11dd0dc71315b0af60e3f8de940ef982570c982c7ff4971"), looks := false }, kinds := [], alts := [], laidByText := true, laidKinds := [.data], laidTests := true, laidLooks := .later }
def WaveWitnessesCardSaid : Prop := Claim7.holds Tryd.pinned (.plain (OpenSpec.ofChange waveWitnessesSpec)) waveWitnessesCard

/-- THE TIED CARD OF 'buchholzlaw08.WaveReported'. -/
def waveReportedCard : Claim7 := { stood := { row := waveReportedRow, standIns := [], harness := (true, "a0ac937db1b87eb7c11dd0dc71315b0af60e3f8de940ef982570c982c7ff4971"), looks := false }, kinds := [], alts := [], laidByText := true, laidKinds := [.data], laidTests := true, laidLooks := .later }
def WaveReportedCardSaid : Prop := Claim7.holds Tryd.pinned (.plain (OpenSpec.ofChange waveReportedSpec)) waveReportedCard

/-- THE SECOND FORM's CARD OF 'buchholzlaw08.WaveChains'. -/
def waveChainsUptoCard : Claim7 := { stood := { row := waveChainsUptoRow, standIns := [], harness := (true, "a0ac937db1b87eb7c11dd0dc71315b0af60e3f8de940ef982570c982c7ff4971"), looks := false }, kinds := [], alts := [], laidByText := true, laidKinds := [.data], laidTests := true, laidLooks := .later }
def WaveChainsUptoCardSaid : Prop := Claim7.holds Tryd.pinned (.plain (OpenSpec.upto waveChainsSpec)) waveChainsUptoCard

/-- THE SECOND FORM's CARD OF 'buchholzlaw08.WaveEnclosed'. -/
def waveEnclosedUptoCard : Claim7 := { stood := { row := waveEnclosedUptoRow, standIns := [], harness := (true, "a0ac937db1b87eb7c11dd0dc71315b0af60e3f8de940ef982570c982c7ff4971"), looks := false }, kinds := [], alts := [], laidByText := true, laidKinds := [.data], laidTests := true, laidLooks := .later }
def WaveEnclosedUptoCardSaid : Prop := Claim7.holds Tryd.pinned (.plain (OpenSpec.upto waveEnclosedSpec)) waveEnclosedUptoCard

/-- THE SECOND FORM's CARD OF 'buchholzlaw08.WaveEnds'. -/
def waveEndsUptoCard : Claim7 := { stood := { row := waveEndsUptoRow, standIns := [], harness := (true, "a0ac937db1b87eb7c11dd0dc71315b0af60e3f8de940ef982570c982c7ff4971"), looks := false }, kinds := [], alts := [], laidByText := true, laidKinds := [.data], laidTests := true, laidLooks := .later }
def WaveEndsUptoCardSaid : Prop := Claim7.holds Tryd.pinned (.plain (OpenSpec.upto waveEndsSpec)) waveEndsUptoCard

/-- THE SECOND FORM's CARD OF 'buchholzlaw08.WaveFigures'. -/
def waveFiguresUptoCard : Claim7 := { stood := { row := waveFiguresUptoRow, standIns := [], harness := (true, "a0ac937db1b87eb7c11dd0dc71315b0af60e3f8de940ef982570c982c7ff4971"), looks := false }, kinds := [], alts := [], laidByText := true, laidKinds := [.data], laidTests := true, laidLooks := .later }
def WaveFiguresUptoCardSaid : Prop := Claim7.holds Tryd.pinned (.plain (OpenSpec.upto waveFiguresSpec)) waveFiguresUptoCard

/-- THE SECOND FORM's CARD OF 'buchholzlaw08.WaveLosses'. -/
def waveLossesUptoCard : Claim7 := { stood := { row := waveLossesUptoRow, standIns := [], harness := (true, "a0ac937db1b87eb7c11dd0dc71315b0af60e3f8de940ef982570c982c7ff4971"), looks := false }, kinds := [], alts := [], laidByText := true, laidKinds := [.data], laidTests := true, laidLooks := .later }
def WaveLossesUptoCardSaid : Prop := Claim7.holds Tryd.pinned (.plain (OpenSpec.upto waveLossesSpec)) waveLossesUptoCard

/-- THE SECOND FORM's CARD OF 'buchholzlaw08.WaveFactors'. -/
def waveFactorsUptoCard : Claim7 := { stood := { row := waveFactorsUptoRow, standIns := [], harness := (true, "a0ac937db1b87eb7c11dd0dc71315b0af60e3f8de940ef982570c982c7ff4971"), looks := false }, kinds := [], alts := [], laidByText := true, laidKinds := [.data], laidTests := true, laidLooks := .later }
def WaveFactorsUptoCardSaid : Prop := Claim7.holds Tryd.pinned (.plain (OpenSpec.upto waveFactorsSpec)) waveFactorsUptoCard

/-- THE SECOND FORM's CARD OF 'buchholzlaw08.WaveTimes'. -/
def waveTimesUptoCard : Claim7 := { stood := { row := waveTimesUptoRow, standIns := [], harness := (true, "a0ac937db1b87eb7c11dd0dc71315b0af60e3f8de940ef982570c982c7ff4971"), looks := false }, kinds := [], alts := [], laidByText := true, laidKinds := [.data], laidTests := true, laidLooks := .later }
def WaveTimesUptoCardSaid : Prop := Claim7.holds Tryd.pinned (.plain (OpenSpec.upto waveTimesSpec)) waveTimesUptoCard

/-- THE SECOND FORM's CARD OF 'buchholzlaw08.WaveWider'. -/
def waveWiderUptoCard : Claim7 := { stood := { row := waveWiderUptoRow, standIns := [], harness := (true, "a0ac937db1b87eb7c11dd0dc71315b0af60e3f8de940ef982570c982c7ff4971"), looks := false }, kinds := [], alts := [], laidByText := true, laidKinds := [.data], laidTests := true, laidLooks := .later }
def WaveWiderUptoCardSaid : Prop := Claim7.holds Tryd.pinned (.plain (OpenSpec.upto waveWiderSpec)) waveWiderUptoCard

/-- THE SECOND FORM's CARD OF 'buchholzlaw08.WaveVoltages'. -/
def waveVoltagesUptoCard : Claim7 := { stood := { row := waveVoltagesUptoRow, standIns := [], harness := (true, "a0ac937db1b87eb7c11dd0dc71315b0af60e3f8de940ef982570c982c7ff4971"), looks := false }, kinds := [], alts := [], laidByText := true, laidKinds := [.data], laidTests := true, laidLooks := .later }
def WaveVoltagesUptoCardSaid : Prop := Claim7.holds Tryd.pinned (.plain (OpenSpec.upto waveVoltagesSpec)) waveVoltagesUptoCard

/-- THE SECOND FORM's CARD OF 'buchholzlaw08.WaveRatios'. -/
def waveRatiosUptoCard : Claim7 := { stood := { row := waveRatiosUptoRow, standIns := [], harness := (true, "a0ac937db1b87eb7c11dd0dc71315b0af60e3f8de940ef982570c982c7ff4971"), looks := false }, kinds := [], alts := [], laidByText := true, laidKinds := [.data], laidTests := true, laidLooks := .later }
def WaveRatiosUptoCardSaid : Prop := Claim7.holds Tryd.pinned (.plain (OpenSpec.upto waveRatiosSpec)) waveRatiosUptoCard

/-- THE SECOND FORM's CARD OF 'buchholzlaw08.WaveWitnesses'. -/
def waveWitnessesUptoCard : Claim7 := { stood := { row := waveWitnessesUptoRow, standIns := [], harness := (true, "a0ac937db1b87eb7c11dd0dc71315b0af60e3f8de940ef982570c982c7ff4971"), looks := false }, kinds := [], alts := [], laidByText := true, laidKinds := [.data], laidTests := true, laidLooks := .later }
def WaveWitnessesUptoCardSaid : Prop := Claim7.holds Tryd.pinned (.plain (OpenSpec.upto waveWitnessesSpec)) waveWitnessesUptoCard

/-- THE SECOND FORM's CARD OF 'buchholzlaw08.WaveReported'. -/
def waveReportedUptoCard : Claim7 := { stood := { row := waveReportedUptoRow, standIns := [], harness := (true, "a0ac937db1b87eb7c11dd0dc71315b0af60e3f8de940ef982570c982c7ff4971"), looks := false }, kinds := [], alts := [], laidByText := true, laidKinds := [.data], laidTests := true, laidLooks := .later }
def WaveReportedUptoCardSaid : Prop := Claim7.holds Tryd.pinned (.plain (OpenSpec.upto waveReportedSpec)) waveReportedUptoCard
end Rows
end Go.Proofs.YtnamnocgjggnmaaDoor
