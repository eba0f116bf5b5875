/-
  The law WaveFactors of chapter 8 returns true for all rules and pairs of records, and leaves its arguments as they were, where the variable never holds what the program's text lays.
-/
import Derived.Test.YtnamnocgjggnmaaDoorVf
import Derived.Test.YtnamnocgjggnmaaDoorVd
import Derived.Test.YtnamnocgjggnmaaDoorTie
import Derived.Test.YtnamnocgjggnmaaDoorCards
namespace Go.Proofs.YtnamnocgjggnmaaDoor.waveFactors
open Go.Fw Go.ChangeShapes Go.WideShapes Go.ChangeAt Go.RowKit Go.Proofs.Tryd
set_option maxRecDepth 100000 in
theorem walk (xs : List SV) (h : FitL cx 5 Tryd.f8.params.toList xs) : Sat cx.P cx.gl 8 xs (.one (false, [.lit (.bool true)])) := by
  rw [Tryd.params8] at h
  obtain ⟨x, y, rfl, h1, h2⟩ := fitL2 (t := 28) (u := 77) h
  obtain ⟨e, q, ch, rfl, hq, hch, _⟩ := fit_rules h1
  obtain ⟨sa, la, sb, lb, rfl, hla, hlb⟩ := fit_pair h2
  exact waveFactors_sat e q ch sa la sb lb hq hch hla hlb
set_option maxRecDepth 100000 in
theorem lifted (os : Os) (started : os.Started) (H : Type) (enc : TypeId × Value → H) :
    ReturnsInHanded {} Tryd.checked os 8 .any (fun w args => (Rows.waveFactorsSpec.pre enc Tryd.prog Tryd.f8 [] false w args ∧ laidMetH Tryd.prog laidD w) ∧ sizedMet enc Tryd.prog Tryd.f8 (OpenSpec.ofChange Rows.waveFactorsSpec) false w args)
      (Rows.waveFactorsSpec.post enc Tryd.prog Tryd.f8 false true false false) := by
  refine returnsInHanded_of_change_and (C := Tryd.checked) (X := fun w _ => laidMetH Tryd.prog laidD w) (fun _ _ _ hh h => h.of_heap hh) own started (by kernel_rfl) Tryd.func8
    (ChangeSpec.witness_shaped (enc := enc) (C := Tryd.checked) (os := os) (X := fun w _ => laidMetH Tryd.prog laidD w) false (World.doorLaid Tryd.prog 400 os) #[.agg #[.int .i64 0, .int .i64 0, .int .i64 0, .int .i64 0, .int .i64 0, .slice none 0 0], .agg #[.int .i64 0, .slice none 0 0, .int .i64 0, .slice none 0 0]] 8 rfl (World.shaped_of_RefB (by kernel_rfl) (by kernel_rfl)) (by kernel_rfl) (by kernel_rfl) (by kernel_rfl) (door_met os _)) ?_
  intro W base args ds gs before hval hW _ _ hL _
  exact law_calls_gl (C := cx) (d := 5) cx_ok laidOut (by kernel_rfl) (by kernel_rfl) rfl (by kernel_rfl) rfl
    (fun ds hl => by
      rw [Tryd.params8] at hl
      match ds, hl with
      | [d1, d2], _ => rfl) walk (glob_ok hL) hval hW
theorem over : Rows.WaveFactorsSaid :=
  OpenClaim.holds_of_wide 8 Tryd.f8 rfl rfl rfl rfl rfl rfl rfl ⟨rfl, rfl, rfl, rfl, rfl⟩ rfl rfl rfl rfl rfl (by kernel_rfl) Tryd.func8 (by kernel_rfl)
    (of_decide_eq_true (by kernel_rfl)) (by unfold Func.isWrapper; first | (rw [if_pos (by decide +kernel)]; kernel_rfl) | (rw [if_neg (by decide +kernel)]; exact ⟨rfl, rfl⟩))
    (fun os started H enc _ => lifted os started H enc)
theorem proved : Rows.WaveFactorsCardSaid :=
  Claim7.holds_tied_plain_at .later [] [.data] true (true, "a0ac937db1b87eb7c11dd0dc71315b0af60e3f8de940ef982570c982c7ff4971") false
    over (fun _ h => by cases h) (by kernel_rfl) (fun _ h => by cases h) waveFactors_row_tie rfl ⟨rfl, rfl⟩ (by kernel_rfl) rfl
    (fun f fn hf hfn => by
      obtain rfl : f = 8 := Option.some.inj ((show Tryd.prog.funcNamed "buchholz/buchholzlaw08.WaveFactors" = some 8 by kernel_rfl).symm.trans hf) |>.symm
      obtain rfl : fn = Tryd.f8 := (Option.some.inj (Tryd.func8.symm.trans hfn)).symm
      exact ⟨by kernel_rfl, fun j t ht => by
        have hall : (Tryd.f8.params.toList.all fun u => !Tryd.prog.wantsStandIn u) = true := by kernel_rfl
        have hm : t ∈ Tryd.f8.params.toList := by simpa using Array.mem_of_getElem? ht
        exact (show Tryd.prog.wantsStandIn t = false by simpa using List.all_eq_true.1 hall t hm)⟩)
    (by kernel_rfl)

end Go.Proofs.YtnamnocgjggnmaaDoor.waveFactors
