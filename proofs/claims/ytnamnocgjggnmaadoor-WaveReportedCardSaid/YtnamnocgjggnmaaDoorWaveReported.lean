/-
  The law WaveReported of chapter 8 returns true for all rules, records and changes of the samples, and leaves its arguments as they were, where the variable never holds what the program's text lays.
-/
import Derived.Test.YtnamnocgjggnmaaDoorVh
import Derived.Test.YtnamnocgjggnmaaDoorVd
import Derived.Test.YtnamnocgjggnmaaDoorTie
import Derived.Test.YtnamnocgjggnmaaDoorCards
namespace Go.Proofs.YtnamnocgjggnmaaDoor.waveReported
open Go.Fw Go.ChangeShapes Go.WideShapes Go.ChangeAt Go.RowKit Go.Proofs.Tryd
theorem fit_lists2 {d : Nat} {x : SV} (h : FitV cx (d + 2) 116 x) : ∃ a b : List Int, x = (true, [.ints a, .ints b]) ∧ (∀ n ∈ a, inI n) ∧ ∀ n ∈ b, inI n := by
  obtain ⟨e, h1⟩ := fitV_agg rfl rfl h
  obtain ⟨p, q, e1, h2, p2, q2, e2, h3, e3⟩ := fit_array (by rfl) (by rfl) h1
  obtain ⟨a, rfl, _, ha⟩ := fit_ints (by rfl) (by rfl) (by rfl) h2
  obtain ⟨b, rfl, _, hb⟩ := fit_ints (by rfl) (by rfl) (by rfl) h3
  exact ⟨a, b, by rw [e, e1, e2, e3]; rfl, fun n hn => ha n hn, fun n hn => hb n hn⟩
set_option maxRecDepth 100000 in
theorem walk (xs : List SV) (h : FitL cx 5 Tryd.f14.params.toList xs) : Sat cx.P cx.gl 14 xs (.one (false, [.lit (.bool true)])) := by
  rw [Tryd.params14] at h
  obtain ⟨x, y, z, rfl, h1, h2, h3⟩ := fitL3 (t := 28) (u := 31) (v := 116) h
  obtain ⟨e, q, ch, rfl, hq, hch, _⟩ := fit_rules h1
  obtain ⟨st, l, rfl, hl, _⟩ := fit_record h2
  obtain ⟨a, b, rfl, ha, hb⟩ := fit_lists2 h3
  exact waveReported_sat e q ch st l a b hq hch hl ha hb
set_option maxRecDepth 100000 in
theorem lifted (os : Os) (started : os.Started) (H : Type) (enc : TypeId × Value → H) :
    ReturnsInHanded {} Tryd.checked os 14 .any (fun w args => (Rows.waveReportedSpec.pre enc Tryd.prog Tryd.f14 [] false w args ∧ laidMetH Tryd.prog laidD w) ∧ sizedMet enc Tryd.prog Tryd.f14 (OpenSpec.ofChange Rows.waveReportedSpec) false w args)
      (Rows.waveReportedSpec.post enc Tryd.prog Tryd.f14 false true false false) := by
  refine returnsInHanded_of_change_and (C := Tryd.checked) (X := fun w _ => laidMetH Tryd.prog laidD w) (fun _ _ _ hh h => h.of_heap hh) own started (by kernel_rfl) Tryd.func14
    (ChangeSpec.witness_shaped (enc := enc) (C := Tryd.checked) (os := os) (X := fun w _ => laidMetH Tryd.prog laidD w) false (World.doorLaid Tryd.prog 400 os) #[.agg #[.int .i64 0, .int .i64 0, .int .i64 0, .int .i64 0, .int .i64 0, .slice none 0 0], .agg #[.int .i64 0, .slice none 0 0], .agg #[.slice none 0 0, .slice none 0 0]] 8 rfl (World.shaped_of_RefB (by kernel_rfl) (by kernel_rfl)) (by kernel_rfl) (by kernel_rfl) (by kernel_rfl) (door_met os _)) ?_
  intro W base args ds gs before hval hW _ _ hL _
  exact law_calls_gl (C := cx) (d := 5) cx_ok laidOut (by kernel_rfl) (by kernel_rfl) rfl (by kernel_rfl) rfl
    (fun ds hl => by
      rw [Tryd.params14] at hl
      match ds, hl with
      | [d1, d2, d3], _ => rfl) walk (glob_ok hL) hval hW
theorem over : Rows.WaveReportedSaid :=
  OpenClaim.holds_of_wide 14 Tryd.f14 rfl rfl rfl rfl rfl rfl rfl ⟨rfl, rfl, rfl, rfl, rfl⟩ rfl rfl rfl rfl rfl (by kernel_rfl) Tryd.func14 (by kernel_rfl)
    (of_decide_eq_true (by kernel_rfl)) (by unfold Func.isWrapper; first | (rw [if_pos (by decide +kernel)]; kernel_rfl) | (rw [if_neg (by decide +kernel)]; exact ⟨rfl, rfl⟩))
    (fun os started H enc _ => lifted os started H enc)
theorem proved : Rows.WaveReportedCardSaid :=
  Claim7.holds_tied_plain_at .later [] [.data] true (true, "a0ac937db1b87eb7c11dd0dc71315b0af60e3f8de940ef982570c982c7ff4971") false
    over (fun _ h => by cases h) (by kernel_rfl) (fun _ h => by cases h) waveReported_row_tie rfl ⟨rfl, rfl⟩ (by kernel_rfl) rfl
    (fun f fn hf hfn => by
      obtain rfl : f = 14 := Option.some.inj ((show Tryd.prog.funcNamed "buchholz/buchholzlaw08.WaveReported" = some 14 by kernel_rfl).symm.trans hf) |>.symm
      obtain rfl : fn = Tryd.f14 := (Option.some.inj (Tryd.func14.symm.trans hfn)).symm
      exact ⟨by kernel_rfl, fun j t ht => by
        have hall : (Tryd.f14.params.toList.all fun u => !Tryd.prog.wantsStandIn u) = true := by kernel_rfl
        have hm : t ∈ Tryd.f14.params.toList := by simpa using Array.mem_of_getElem? ht
        exact (show Tryd.prog.wantsStandIn t = false by simpa using List.all_eq_true.1 hall t hm)⟩)
    (by kernel_rfl)

end Go.Proofs.YtnamnocgjggnmaaDoor.waveReported
