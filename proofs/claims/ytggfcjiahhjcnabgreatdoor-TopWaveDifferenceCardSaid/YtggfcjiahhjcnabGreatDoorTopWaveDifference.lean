/-
  The law TopWaveDifference returns true for all rules, every record and every test, and leaves its arguments as they were, where the library's tables and errors hold what their text lays.
-/
import Derived.Test.YtggfcjiahhjcnabGreatDoorVe
import Derived.Test.YtggfcjiahhjcnabGreatDoorDo
import Derived.Test.YtggfcjiahhjcnabGreatDoorTie
import Derived.Test.YtggfcjiahhjcnabGreatDoorCards
namespace Go.Proofs.YtggfcjiahhjcnabGreatDoor.topWaveDifference
open Go.Fw Go.ChangeShapes Go.WideShapes Go.ChangeAt Go.RowKit Go.Proofs.Tryz
theorem fit_test {d : Nat} {x : SV} (h : FitV cx (d + 2) 33 x) : ∃ a b c : Int, x = (true, [J a, J b, J c]) := by
  obtain ⟨e, h1⟩ := fitV_agg rfl rfl h
  obtain ⟨p1, q1, e1, h1, p2, q2, e2, h2, p3, q3, e3, h3, e4⟩ := fit_struct (by rfl) (by rfl) h1
  obtain ⟨a, rfl, _⟩ := fit_i64 (by rfl) (by rfl) h1
  obtain ⟨b, rfl, _⟩ := fit_i64 (by rfl) (by rfl) h2
  obtain ⟨c, rfl, _⟩ := fit_i64 (by rfl) (by rfl) h3
  refine ⟨a, b, c, ?_⟩
  rw [e, e1, e2, e3, e4]; rfl
set_option maxRecDepth 100000 in
theorem walk (xs : List SV) (h : FitL cx 5 Tryz.f3.params.toList xs) : Sat cx.P cx.gl 3 xs (.one (false, [.lit (.bool true)])) := by
  rw [Tryz.params3] at h
  obtain ⟨x, y, z, rfl, h1, h2, h3⟩ := fitL3 (t := 28) (u := 31) (v := 33) h
  obtain ⟨e, q, ch, rfl, he, hq, hch, hc⟩ := fit_rules h1
  obtain ⟨st, l, rfl, hst, hl, hi⟩ := fit_record h2
  obtain ⟨a, b, c, rfl⟩ := fit_test h3
  exact topWaveDifference_sat e q ch st l a b c hq hch hl
set_option maxRecDepth 100000 in
theorem lifted (os : Os) (started : os.Started) (H : Type) (enc : TypeId × Value → H) :
    ReturnsInHanded {} Tryz.checked os 3 .any (fun w args => (Rows.topWaveDifferenceSpec.pre enc Tryz.prog Tryz.f3 [] false w args ∧ laidMetH Tryz.prog laidD w) ∧ sizedMet enc Tryz.prog Tryz.f3 (OpenSpec.ofChange Rows.topWaveDifferenceSpec) false w args)
      (Rows.topWaveDifferenceSpec.post enc Tryz.prog Tryz.f3 false true false false) := by
  refine returnsInHanded_of_calls (C := Tryz.checked) own started (by kernel_rfl)
    (ChangeSpec.witness_shaped (enc := enc) (C := Tryz.checked) (os := os) (X := fun w _ => laidMetH Tryz.prog laidD w) false (World.laidAll Tryz.prog os laidD) #[.agg #[.int .i64 0, .int .i64 0, .int .i64 0, .int .i64 0, .int .i64 0, .slice none 0 0], .agg #[.int .i64 0, .slice none 0 0], .agg #[.int .i64 0, .int .i64 0, .int .i64 0]] 8 (World.laidAll_os _ _ _) (World.shaped_of_ZipB (by kernel_rfl) (by kernel_rfl)) (by kernel_rfl) (by kernel_rfl) (by kernel_rfl) (door_met os _)) ?_
  intro w tape i _ hsh _ hok hpre _
  obtain ⟨_, _, _, fn', hfn', _, _, _, _, hval⟩ := hok
  obtain rfl : fn' = Tryz.f3 := Option.some.inj (hfn'.symm.trans Tryz.func3)
  obtain ⟨⟨⟨ds, gs, before, hw, _⟩, hx⟩, _⟩ := hpre
  have hw' := DataW.Whole.of_heap (w' := w.forCall tape i) (by rfl) hw
  have hx' : laidMetH Tryz.prog laidD (w.forCall tape i) := hx.of_heap (by rfl)
  refine (law_calls_gl (C := cx) (d := 5) cx_ok laidOut (by kernel_rfl) (by kernel_rfl) rfl (by kernel_rfl) rfl
    (fun ds hl => by
      rw [Tryz.params3] at hl
      match ds, hl with
      | [d1, d2, d3], _ => rfl) walk (glob_ok hx' hsh) hval hw').mono fun e W' hh => ?_
  obtain ⟨v, he, hp⟩ := hh
  subst he
  exact ChangeSpec.post_blind hp
theorem over : Rows.TopWaveDifferenceSaid :=
  OpenClaim.holds_of_wide 3 Tryz.f3 rfl rfl rfl rfl rfl rfl rfl ⟨rfl, rfl, rfl, rfl, rfl⟩ rfl rfl rfl rfl rfl (by kernel_rfl) Tryz.func3 (by kernel_rfl)
    (of_decide_eq_true (by kernel_rfl)) (by unfold Func.isWrapper; first | (rw [if_pos (by decide +kernel)]; kernel_rfl) | (rw [if_neg (by decide +kernel)]; exact ⟨rfl, rfl⟩))
    (fun os started H enc _ => lifted os started H enc)
theorem proved : Rows.TopWaveDifferenceCardSaid :=
  Claim7.holds_tied_plain_at .later [] [.data, .data, .data, .data, .sentinel, .sentinel, .data, .pinned] true (true, "a9440986badb45e59d431bd686fbfaccf872b87f2df421c981e4671061f0eb8f") true
    over (fun _ h => by cases h) (by kernel_rfl) (fun _ h => by cases h) topWaveDifference_row_tie rfl ⟨rfl, rfl⟩ (by kernel_rfl) rfl
    (fun f fn hf hfn => by
      obtain rfl : f = 3 := Option.some.inj ((show Tryz.prog.funcNamed "buchholz/buchholztop.TopWaveDifference" = some 3 by kernel_rfl).symm.trans hf) |>.symm
      obtain rfl : fn = Tryz.f3 := (Option.some.inj (Tryz.func3.symm.trans hfn)).symm
      exact ⟨by kernel_rfl, fun j t ht => by
        have hall : (Tryz.f3.params.toList.all fun u => !Tryz.prog.wantsStandIn u) = true := by kernel_rfl
        have hm : t ∈ Tryz.f3.params.toList := by simpa using Array.mem_of_getElem? ht
        exact (show Tryz.prog.wantsStandIn t = false by simpa using List.all_eq_true.1 hall t hm)⟩)
    (by kernel_rfl)
end Go.Proofs.YtggfcjiahhjcnabGreatDoor.topWaveDifference
