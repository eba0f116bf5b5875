/-
  The law ForceStrings of chapter 5 returns true for every window and string, and leaves its arguments as they were, where the library's tables and errors hold what their text lays.
-/
import Derived.Test.YtipakjlkkefljaaGreatDoorWg
import Derived.Test.YtipakjlkkefljaaGreatDoorDo
import Derived.Test.YtipakjlkkefljaaGreatDoorTie
import Derived.Test.YtipakjlkkefljaaGreatDoorCards
namespace Go.Proofs.YtipakjlkkefljaaGreatDoor.forceStrings
open Go.Fw Go.ChangeShapes Go.WideShapes Go.ChangeAt Go.RowKit Go.Proofs.Tryz
theorem fit_window {x : SV} (h : FitV cx 4 24 x) : ∃ a b : List Int, x = W2 a b ∧ a.length ≤ maxLen ∧ b.length ≤ maxLen ∧ (∀ n ∈ a, Plain.inJ n) ∧ ∀ n ∈ b, Plain.inJ n := by
  obtain ⟨e, h1⟩ := fitV_agg rfl rfl h
  obtain ⟨p, q, e1, h2, p', q', e2, h3, e3⟩ := fit_struct (by rfl) (by rfl) h1
  obtain ⟨l, rfl, l1, l2⟩ := fit_ints (by rfl) (by rfl) (by rfl) h2
  obtain ⟨l', rfl, l1', l2'⟩ := fit_ints (by rfl) (by rfl) (by rfl) h3
  refine ⟨l, l', ?_, l1, l1', fun n hn => l2 n hn, fun n hn => l2' n hn⟩
  rw [e, e1, e2, e3]; rfl
theorem fit_string {x : SV} (h : FitV cx 4 9 x) : ∃ s : List UInt8, x = SS s := by
  obtain ⟨e, h1⟩ := fitV_one rfl rfl h
  obtain ⟨s, e1, _⟩ := fit_str (by rfl) (by rfl) h1
  exact ⟨s.data.toList, by rw [e, e1]; unfold SS; rw [B_of]⟩
set_option maxRecDepth 100000 in
theorem walk (xs : List SV) (h : FitL cx 4 Tryz.f3.params.toList xs) : Sat cx.P cx.gl 3 xs (.one (false, [.lit (.bool true)])) := by
  rw [Tryz.params3] at h
  obtain ⟨x, y, rfl, h1, h2⟩ := fitL2 (t := 24) (u := 9) h
  obtain ⟨a, b, rfl, ha, hb, h3, h4⟩ := fit_window h1
  obtain ⟨s, rfl⟩ := fit_string h2
  exact forceStrings_sat a b s ha hb h3 h4
set_option maxRecDepth 100000 in
theorem lifted (os : Os) (started : os.Started) (H : Type) (enc : TypeId × Value → H) :
    ReturnsInHanded {} Tryz.checked os 3 .any (fun w args => (Rows.forceStringsSpec.pre enc Tryz.prog Tryz.f3 [] false w args ∧ laidMetH Tryz.prog laidD w) ∧ sizedMet enc Tryz.prog Tryz.f3 (OpenSpec.ofChange Rows.forceStringsSpec) false w args)
      (Rows.forceStringsSpec.post enc Tryz.prog Tryz.f3 false true false false) := by
  refine returnsInHanded_of_calls (C := Tryz.checked) own started (by kernel_rfl)
    (ChangeSpec.witness_shaped (enc := enc) (C := Tryz.checked) (os := os) (X := fun w _ => laidMetH Tryz.prog laidD w) false (World.laidAll Tryz.prog os laidD) #[.agg #[.slice none 0 0, .slice none 0 0], .string (ByteArray.mk #[])] 8 (World.laidAll_os _ _ _) (World.shaped_of_ZipB (by kernel_rfl) (by kernel_rfl)) (by kernel_rfl) (by kernel_rfl) (by kernel_rfl) (door_met os _)) ?_
  intro w tape i _ hsh _ hok hpre _
  obtain ⟨_, _, _, fn', hfn', _, _, _, _, hval⟩ := hok
  obtain rfl : fn' = Tryz.f3 := Option.some.inj (hfn'.symm.trans Tryz.func3)
  obtain ⟨⟨⟨ds, gs, before, hw, _⟩, hx⟩, _⟩ := hpre
  have hw' := DataW.Whole.of_heap (w' := w.forCall tape i) (by rfl) hw
  have hx' : laidMetH Tryz.prog laidD (w.forCall tape i) := hx.of_heap (by rfl)
  refine (law_calls_gl (C := cx) (d := 4) cx_ok laidOut (by kernel_rfl) (by kernel_rfl) rfl (by kernel_rfl) rfl
    (fun ds hl => by
      rw [Tryz.params3] at hl
      match ds, hl with
      | [d1, d2], _ => rfl) walk (glob_ok hx' hsh) hval hw').mono fun e W' hh => ?_
  obtain ⟨v, he, hp⟩ := hh
  subst he
  exact ChangeSpec.post_blind hp
theorem over : Rows.ForceStringsSaid :=
  OpenClaim.holds_of_wide 3 Tryz.f3 rfl rfl rfl rfl rfl rfl rfl ⟨rfl, rfl, rfl, rfl, rfl⟩ rfl rfl rfl rfl rfl (by kernel_rfl) Tryz.func3 (by kernel_rfl)
    (of_decide_eq_true (by kernel_rfl)) (by unfold Func.isWrapper; first | (rw [if_pos (by decide +kernel)]; kernel_rfl) | (rw [if_neg (by decide +kernel)]; exact ⟨rfl, rfl⟩))
    (fun os started H enc _ => lifted os started H enc)
theorem proved : Rows.ForceStringsCardSaid :=
  Claim7.holds_tied_plain_at .later [] [.data, .data, .data, .data, .sentinel, .sentinel, .pinned] true (true, "00e48c37d5fbb8bf5daedaaca238cd83c52b85c8a13416269ad51b49bd5e3764") true
    over (fun _ h => by cases h) (by kernel_rfl) (fun _ h => by cases h) forceStrings_row_tie rfl ⟨rfl, rfl⟩ (by kernel_rfl) rfl
    (fun f fn hf hfn => by
      obtain rfl : f = 3 := Option.some.inj ((show Tryz.prog.funcNamed "buchholz/buchholzlaw05.ForceStrings" = some 3 by kernel_rfl).symm.trans hf) |>.symm
      obtain rfl : fn = Tryz.f3 := (Option.some.inj (Tryz.func3.symm.trans hfn)).symm
      exact ⟨by kernel_rfl, fun j t ht => by
        have hall : (Tryz.f3.params.toList.all fun u => !Tryz.prog.wantsStandIn u) = true := by kernel_rfl
        have hm : t ∈ Tryz.f3.params.toList := by simpa using Array.mem_of_getElem? ht
        exact (show Tryz.prog.wantsStandIn t = false by simpa using List.all_eq_true.1 hall t hm)⟩)
    (by kernel_rfl)
end Go.Proofs.YtipakjlkkefljaaGreatDoor.forceStrings
