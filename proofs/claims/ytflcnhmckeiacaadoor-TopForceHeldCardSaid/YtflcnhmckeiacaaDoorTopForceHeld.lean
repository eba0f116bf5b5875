/-
  The law TopForceHeld returns true for every design, and leaves it as it was, where the table of kinds holds what the program's text lays.
-/
import Derived.Test.YtflcnhmckeiacaaDoorYe
import Derived.Test.YtflcnhmckeiacaaDoorDo
import Derived.Test.YtflcnhmckeiacaaDoorTie
import Derived.Test.YtflcnhmckeiacaaDoorCards
namespace Go.Proofs.YtflcnhmckeiacaaDoor.topForceHeld
open Go.Fw Go.ChangeShapes Go.WideShapes Go.ChangeAt Go.RowKit Go.Proofs.Tryd
set_option maxRecDepth 100000 in
theorem walk (xs : List SV) (h : FitL cx 5 Tryd.f3.params.toList xs) : Sat cx.P cx.gl 3 xs (.one (false, [.lit (.bool true)])) := by
  rw [Tryd.params3] at h
  obtain ⟨x, rfl, h1⟩ := fitL1 (t := 29) h
  obtain ⟨a, ts, lo, hi, fl, l0, l1, l2, l3, rfl, g1, g2, g3, g4, g5⟩ := fit_design h1
  exact topForceHeld_sat a ts lo hi fl l0 l1 l2 l3 g1 g2 g3 g4 g5
set_option maxRecDepth 100000 in
theorem lifted (os : Os) (started : os.Started) (H : Type) (enc : TypeId × Value → H) :
    ReturnsInHanded {} Tryd.checked os 3 .any (fun w args => (Rows.topForceHeldSpec.pre enc Tryd.prog Tryd.f3 [] false w args ∧ laidMetH Tryd.prog laidD w) ∧ sizedMet enc Tryd.prog Tryd.f3 (OpenSpec.ofChange Rows.topForceHeldSpec) false w args)
      (Rows.topForceHeldSpec.post enc Tryd.prog Tryd.f3 false true false false) := by
  refine returnsInHanded_of_change_and (C := Tryd.checked) (X := fun w _ => laidMetH Tryd.prog laidD w) (fun _ _ _ hh h => h.of_heap hh) own started (by kernel_rfl) Tryd.func3
    (ChangeSpec.witness_shaped (enc := enc) (C := Tryd.checked) (os := os) (X := fun w _ => laidMetH Tryd.prog laidD w) false (World.doorLaid Tryd.prog 400 os) #[.agg #[.slice none 0 0, .slice none 0 0, .int .i64 0, .int .i64 0, .slice none 0 0, .int .i64 0, .int .i64 0, .int .i64 0, .int .i64 0]] 8 rfl (World.shaped_of_RefB (by kernel_rfl) (by kernel_rfl)) (by kernel_rfl) (by kernel_rfl) (by kernel_rfl) (door_met os _)) ?_
  intro W base args ds gs before hval hW _ _ hL _
  exact law_calls_gl (C := cx) (d := 5) cx_ok laidOut (by kernel_rfl) (by kernel_rfl) rfl (by kernel_rfl) rfl
    (fun ds hl => by
      rw [Tryd.params3] at hl
      match ds, hl with
      | [d1], _ => rfl) walk (glob_ok hL) hval hW
theorem over : Rows.TopForceHeldSaid :=
  OpenClaim.holds_of_wide 3 Tryd.f3 rfl rfl rfl rfl rfl rfl rfl ⟨rfl, rfl, rfl, rfl, rfl⟩ rfl rfl rfl rfl rfl (by kernel_rfl) Tryd.func3 (by kernel_rfl)
    (of_decide_eq_true (by kernel_rfl)) (by unfold Func.isWrapper; first | (rw [if_pos (by decide +kernel)]; kernel_rfl) | (rw [if_neg (by decide +kernel)]; exact ⟨rfl, rfl⟩))
    (fun os started H enc _ => lifted os started H enc)
theorem proved : Rows.TopForceHeldCardSaid :=
  Claim7.holds_tied_plain_at .later [] [.funcs] true (true, "219df623c62170a6e02429d11b028d96bbdac4235b5116a26f04919377ece50b") false
    over (fun _ h => by cases h) (by kernel_rfl) (fun _ h => by cases h) topForceHeld_row_tie rfl ⟨rfl, rfl⟩ (by kernel_rfl) rfl
    (fun f fn hf hfn => by
      obtain rfl : f = 3 := Option.some.inj ((show Tryd.prog.funcNamed "buchholz/buchholztop.TopForceHeld" = some 3 by kernel_rfl).symm.trans hf) |>.symm
      obtain rfl : fn = Tryd.f3 := (Option.some.inj (Tryd.func3.symm.trans hfn)).symm
      exact ⟨by kernel_rfl, fun j t ht => by
        have hall : (Tryd.f3.params.toList.all fun u => !Tryd.prog.wantsStandIn u) = true := by kernel_rfl
        have hm : t ∈ Tryd.f3.params.toList := by simpa using Array.mem_of_getElem? ht
        exact (show Tryd.prog.wantsStandIn t = false by simpa using List.all_eq_true.1 hall t hm)⟩)
    (by kernel_rfl)

end Go.Proofs.YtflcnhmckeiacaaDoor.topForceHeld
