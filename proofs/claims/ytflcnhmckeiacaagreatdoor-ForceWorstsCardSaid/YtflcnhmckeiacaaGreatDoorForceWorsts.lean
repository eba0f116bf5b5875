/-
  The law ForceWorsts of chapter 5 returns true for every design and case, and leaves them as they were, where the table of kinds holds what the program's text lays.
-/
import Derived.Test.YtflcnhmckeiacaaGreatDoorYe
import Derived.Test.YtflcnhmckeiacaaGreatDoorDo
import Derived.Test.YtflcnhmckeiacaaGreatDoorTie
import Derived.Test.YtflcnhmckeiacaaGreatDoorCards
namespace Go.Proofs.YtflcnhmckeiacaaGreatDoor.forceWorsts
open Go.Fw Go.ChangeShapes Go.WideShapes Go.ChangeAt Go.RowKit Go.Proofs.Tryz
set_option maxRecDepth 100000 in
theorem walk (xs : List SV) (h : FitL cx 5 Tryz.f4.params.toList xs) : Sat cx.P cx.gl 4 xs (.one (false, [.lit (.bool true)])) := by
  rw [Tryz.params4] at h
  obtain ⟨x, y, rfl, h1, h2⟩ := fitL2 (t := 29) (u := 31) h
  obtain ⟨a, ts, lo, hi, fl, l0, l1, l2, l3, rfl, g1, g2, g3, g4, g5⟩ := fit_design h1
  obtain ⟨c, rfl⟩ := fit_case h2
  exact forceWorsts_sat a ts lo hi fl l0 l1 l2 l3 c g1 g2 g3 g4 g5
set_option maxRecDepth 100000 in
theorem lifted (os : Os) (started : os.Started) (H : Type) (enc : TypeId × Value → H) :
    ReturnsInHanded {} Tryz.checked os 4 .any (fun w args => (Rows.forceWorstsSpec.pre enc Tryz.prog Tryz.f4 [] false w args ∧ laidMetH Tryz.prog laidD w) ∧ sizedMet enc Tryz.prog Tryz.f4 (OpenSpec.ofChange Rows.forceWorstsSpec) false w args)
      (Rows.forceWorstsSpec.post enc Tryz.prog Tryz.f4 false true false false) := by
  refine returnsInHanded_of_change_and (C := Tryz.checked) (X := fun w _ => laidMetH Tryz.prog laidD w) (fun _ _ _ hh h => h.of_heap hh) own started (by kernel_rfl) Tryz.func4
    (ChangeSpec.witness_shaped (enc := enc) (C := Tryz.checked) (os := os) (X := fun w _ => laidMetH Tryz.prog laidD w) false (World.doorLaid Tryz.prog 400 os) #[.agg #[.slice none 0 0, .slice none 0 0, .int .i64 0, .int .i64 0, .slice none 0 0, .int .i64 0, .int .i64 0, .int .i64 0, .int .i64 0], .agg #[.int .i64 0, .int .i64 0, .int .i64 0, .int .i64 0]] 8 rfl (World.shaped_of_RefB (by kernel_rfl) (by kernel_rfl)) (by kernel_rfl) (by kernel_rfl) (by kernel_rfl) (door_met os _)) ?_
  intro W base args ds gs before hval hW _ _ hL _
  exact law_calls_gl (C := cx) (d := 5) cx_ok laidOut (by kernel_rfl) (by kernel_rfl) rfl (by kernel_rfl) rfl
    (fun ds hl => by
      rw [Tryz.params4] at hl
      match ds, hl with
      | [d1, d2], _ => rfl) walk (glob_ok hL) hval hW
theorem over : Rows.ForceWorstsSaid :=
  OpenClaim.holds_of_wide 4 Tryz.f4 rfl rfl rfl rfl rfl rfl rfl ⟨rfl, rfl, rfl, rfl, rfl⟩ rfl rfl rfl rfl rfl (by kernel_rfl) Tryz.func4 (by kernel_rfl)
    (of_decide_eq_true (by kernel_rfl)) (by unfold Func.isWrapper; first | (rw [if_pos (by decide +kernel)]; kernel_rfl) | (rw [if_neg (by decide +kernel)]; exact ⟨rfl, rfl⟩))
    (fun os started H enc _ => lifted os started H enc)
theorem proved : Rows.ForceWorstsCardSaid :=
  Claim7.holds_tied_plain_at .later [] [.funcs] true (true, "c2a344c779d958868de91047bfad5039b9e163fd7652b462b4dac5545462d88f") false
    over (fun _ h => by cases h) (by kernel_rfl) (fun _ h => by cases h) forceWorsts_row_tie rfl ⟨rfl, rfl⟩ (by kernel_rfl) rfl
    (fun f fn hf hfn => by
      obtain rfl : f = 4 := Option.some.inj ((show Tryz.prog.funcNamed "buchholz/buchholzlaw05.ForceWorsts" = some 4 by kernel_rfl).symm.trans hf) |>.symm
      obtain rfl : fn = Tryz.f4 := (Option.some.inj (Tryz.func4.symm.trans hfn)).symm
      exact ⟨by kernel_rfl, fun j t ht => by
        have hall : (Tryz.f4.params.toList.all fun u => !Tryz.prog.wantsStandIn u) = true := by kernel_rfl
        have hm : t ∈ Tryz.f4.params.toList := by simpa using Array.mem_of_getElem? ht
        exact (show Tryz.prog.wantsStandIn t = false by simpa using List.all_eq_true.1 hall t hm)⟩)
    (by kernel_rfl)

end Go.Proofs.YtflcnhmckeiacaaGreatDoor.forceWorsts
