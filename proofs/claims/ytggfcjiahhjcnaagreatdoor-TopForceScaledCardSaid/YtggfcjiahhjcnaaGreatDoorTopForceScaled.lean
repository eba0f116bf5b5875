/-
  The law TopForceScaled returns true for every window, fault and limit, and leaves its arguments as they were, where the table of kinds and the library's tables and errors hold what their text lays.
-/
import Derived.Test.YtggfcjiahhjcnaaGreatDoorX
import Derived.Test.YtggfcjiahhjcnaaGreatDoorDo
import Derived.Test.YtggfcjiahhjcnaaGreatDoorTie
import Derived.Test.YtggfcjiahhjcnaaGreatDoorCards
namespace Go.Proofs.YtggfcjiahhjcnaaGreatDoor.topForceScaled
open Go.Fw Go.ChangeShapes Go.WideShapes Go.ChangeAt Go.RowKit Go.Proofs.Tryz
set_option maxRecDepth 100000 in
theorem walk (xs : List SV) (h : FitL cx 4 Tryz.f3.params.toList xs) : Sat cx.P cx.gl 3 xs (.one (false, [.lit (.bool true)])) := by
  rw [Tryz.params3] at h
  obtain ⟨x, y, z, rfl, h1, h2, h3⟩ := fitL3 (t := 24) (u := 30) (v := 3) h
  obtain ⟨a, b, rfl, ha, hb⟩ := fit_window h1
  obtain ⟨va, vb, c, d, n, m, rfl, i5, i6⟩ := fit_fault h2
  obtain ⟨l, rfl, _⟩ := fit_oneInt h3
  exact topForceScaled_sat a b va vb c d n m l ha hb i5 i6
set_option maxRecDepth 100000 in
theorem lifted (os : Os) (started : os.Started) (H : Type) (enc : TypeId × Value → H) :
    ReturnsInHanded {} Tryz.checked os 3 .any (fun w args => (Rows.topForceScaledSpec.pre enc Tryz.prog Tryz.f3 [] false w args ∧ laidMetH Tryz.prog laidD w) ∧ sizedMet enc Tryz.prog Tryz.f3 (OpenSpec.ofChange Rows.topForceScaledSpec) false w args)
      (Rows.topForceScaledSpec.post enc Tryz.prog Tryz.f3 false true false false) := by
  refine returnsInHanded_of_calls (C := Tryz.checked) own started (by kernel_rfl)
    (ChangeSpec.witness_shaped (enc := enc) (C := Tryz.checked) (os := os) (X := fun w _ => laidMetH Tryz.prog laidD w) false (allW os) #[.agg #[.slice none 0 0, .slice none 0 0], .agg #[.int .i64 0, .int .i64 0, .int .i64 0, .int .i64 0, .int .i64 0, .int .i64 0], .int .i64 0] 8 (allW_os os) (World.shaped_of_ZipB (by kernel_rfl) (by kernel_rfl)) (by kernel_rfl) (by kernel_rfl) (by kernel_rfl) (door_met os _)) ?_
  intro w tape i _ hsh _ hok hpre _
  obtain ⟨_, _, _, fn', hfn', _, _, _, _, hval⟩ := hok
  obtain rfl : fn' = Tryz.f3 := Option.some.inj (hfn'.symm.trans Tryz.func3)
  obtain ⟨⟨⟨ds, gs, before, hw, _⟩, hx⟩, _⟩ := hpre
  have hw' := DataW.Whole.of_heap (w' := w.forCall tape i) (by rfl) hw
  have hx' : laidMetH Tryz.prog laidD (w.forCall tape i) := hx.of_heap (by rfl)
  refine (law_calls_gl (C := cx) (d := 4) cx_ok laidOut (by kernel_rfl) (by kernel_rfl) rfl (by kernel_rfl) rfl
    (fun ds hl => by
      rw [Tryz.params3] at hl
      match ds, hl with
      | [d1, d2, d3], _ => rfl) walk (glob_ok hx' hsh) hval hw').mono fun e W' hh => ?_
  obtain ⟨v, he, hp⟩ := hh
  subst he
  exact ChangeSpec.post_blind hp
theorem over : Rows.TopForceScaledSaid :=
  OpenClaim.holds_of_wide 3 Tryz.f3 rfl rfl rfl rfl rfl rfl rfl ⟨rfl, rfl, rfl, rfl, rfl⟩ rfl rfl rfl rfl rfl (by kernel_rfl) Tryz.func3 (by kernel_rfl)
    (of_decide_eq_true (by kernel_rfl)) (by unfold Func.isWrapper; first | (rw [if_pos (by decide +kernel)]; kernel_rfl) | (rw [if_neg (by decide +kernel)]; exact ⟨rfl, rfl⟩))
    (fun os started H enc _ => lifted os started H enc)
theorem proved : Rows.TopForceScaledCardSaid :=
  Claim7.holds_tied_plain_at .later [] [.data, .data, .data, .data, .sentinel, .sentinel, .funcs, .pinned] true (true, "1416de5aecb1674a172fc5e3f72117cd8806fa81243b22414cd9d9bb358ac214") true
    over (fun _ h => by cases h) (by kernel_rfl) (fun _ h => by cases h) topForceScaled_row_tie rfl ⟨rfl, rfl⟩ (by kernel_rfl) rfl
    (fun f fn hf hfn => by
      obtain rfl : f = 3 := Option.some.inj ((show Tryz.prog.funcNamed "buchholz/buchholztop.TopForceScaled" = some 3 by kernel_rfl).symm.trans hf) |>.symm
      obtain rfl : fn = Tryz.f3 := (Option.some.inj (Tryz.func3.symm.trans hfn)).symm
      exact ⟨by kernel_rfl, fun j t ht => by
        have hall : (Tryz.f3.params.toList.all fun u => !Tryz.prog.wantsStandIn u) = true := by kernel_rfl
        have hm : t ∈ Tryz.f3.params.toList := by simpa using Array.mem_of_getElem? ht
        exact (show Tryz.prog.wantsStandIn t = false by simpa using List.all_eq_true.1 hall t hm)⟩)
    (by kernel_rfl)
end Go.Proofs.YtggfcjiahhjcnaaGreatDoor.topForceScaled
