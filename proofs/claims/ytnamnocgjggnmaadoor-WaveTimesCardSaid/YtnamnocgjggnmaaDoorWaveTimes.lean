/-
  The law WaveTimes of chapter 8 returns true for all figures and steps, and leaves its arguments as they were, where the variable never holds what the program's text lays.
-/
import Derived.Test.YtnamnocgjggnmaaDoorVt
import Derived.Test.YtnamnocgjggnmaaDoorVd
import Derived.Test.YtnamnocgjggnmaaDoorTie
import Derived.Test.YtnamnocgjggnmaaDoorCards
namespace Go.Proofs.YtnamnocgjggnmaaDoor.waveTimes
open Go.Fw Go.ChangeShapes Go.WideShapes Go.ChangeAt Go.RowKit Go.Proofs.Tryd
set_option maxRecDepth 100000 in
theorem walk (xs : List SV) (h : FitL cx 4 Tryd.f9.params.toList xs) : Sat cx.P cx.gl 9 xs (.one (false, [.lit (.bool true)])) := by
  rw [Tryd.params9] at h
  obtain ⟨x, y, rfl, h1, h2⟩ := fitL2 (t := 51) (u := 3) h
  obtain ⟨t, p, q, a, b, c, d, e, f, rfl⟩ := fit_figures h1
  obtain ⟨s, rfl, _⟩ := fit_oneInt h2
  exact waveTimes_sat t p q a b c d e f s
set_option maxRecDepth 100000 in
theorem lifted (os : Os) (started : os.Started) (H : Type) (enc : TypeId × Value → H) :
    ReturnsInHanded {} Tryd.checked os 9 .any (fun w args => (Rows.waveTimesSpec.pre enc Tryd.prog Tryd.f9 [] false w args ∧ laidMetH Tryd.prog laidD w) ∧ sizedMet enc Tryd.prog Tryd.f9 (OpenSpec.ofChange Rows.waveTimesSpec) false w args)
      (Rows.waveTimesSpec.post enc Tryd.prog Tryd.f9 false true false false) := by
  refine returnsInHanded_of_change_and (C := Tryd.checked) (X := fun w _ => laidMetH Tryd.prog laidD w) (fun _ _ _ hh h => h.of_heap hh) own started (by kernel_rfl) Tryd.func9
    (ChangeSpec.witness_shaped (enc := enc) (C := Tryd.checked) (os := os) (X := fun w _ => laidMetH Tryd.prog laidD w) false (World.doorLaid Tryd.prog 400 os) #[.agg #[.int .i64 0, .int .i64 0, .int .i64 0, .int .i64 0, .int .i64 0, .int .i64 0, .int .i64 0, .int .i64 0, .int .i64 0], .int .i64 0] 8 rfl (World.shaped_of_RefB (by kernel_rfl) (by kernel_rfl)) (by kernel_rfl) (by kernel_rfl) (by kernel_rfl) (door_met os _)) ?_
  intro W base args ds gs before hval hW _ _ hL _
  exact law_calls_gl (C := cx) (d := 4) cx_ok laidOut (by kernel_rfl) (by kernel_rfl) rfl (by kernel_rfl) rfl
    (fun ds hl => by
      rw [Tryd.params9] at hl
      match ds, hl with
      | [d1, d2], _ => rfl) walk (glob_ok hL) hval hW
theorem over : Rows.WaveTimesSaid :=
  OpenClaim.holds_of_wide 9 Tryd.f9 rfl rfl rfl rfl rfl rfl rfl ⟨rfl, rfl, rfl, rfl, rfl⟩ rfl rfl rfl rfl rfl (by kernel_rfl) Tryd.func9 (by kernel_rfl)
    (of_decide_eq_true (by kernel_rfl)) (by unfold Func.isWrapper; first | (rw [if_pos (by decide +kernel)]; kernel_rfl) | (rw [if_neg (by decide +kernel)]; exact ⟨rfl, rfl⟩))
    (fun os started H enc _ => lifted os started H enc)
theorem proved : Rows.WaveTimesCardSaid :=
  Claim7.holds_tied_plain_at .later [] [.data] true (true, "a0ac937db1b87eb7c11dd0dc71315b0af60e3f8de940ef982570c982c7ff4971") false
    over (fun _ h => by cases h) (by kernel_rfl) (fun _ h => by cases h) waveTimes_row_tie rfl ⟨rfl, rfl⟩ (by kernel_rfl) rfl
    (fun f fn hf hfn => by
      obtain rfl : f = 9 := Option.some.inj ((show Tryd.prog.funcNamed "buchholz/buchholzlaw08.WaveTimes" = some 9 by kernel_rfl).symm.trans hf) |>.symm
      obtain rfl : fn = Tryd.f9 := (Option.some.inj (Tryd.func9.symm.trans hfn)).symm
      exact ⟨by kernel_rfl, fun j t ht => by
        have hall : (Tryd.f9.params.toList.all fun u => !Tryd.prog.wantsStandIn u) = true := by kernel_rfl
        have hm : t ∈ Tryd.f9.params.toList := by simpa using Array.mem_of_getElem? ht
        exact (show Tryd.prog.wantsStandIn t = false by simpa using List.all_eq_true.1 hall t hm)⟩)
    (by kernel_rfl)

end Go.Proofs.YtnamnocgjggnmaaDoor.waveTimes
