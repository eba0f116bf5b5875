/-
  The law ForceMirrored of chapter 5 returns true for every window and shift, and leaves its arguments as they were. No condition.
-/
import Derived.Test.YtlbmcaljkjbjpaaWe
import Derived.Test.YtlbmcaljkjbjpaaRows
namespace Go.Proofs.Ytlbmcaljkjbjpaa.forceMirrored
open Go.Fw Go.ChangeShapes Go.WideShapes Go.ChangeAt Go.RowKit Go.Proofs.Try
theorem own : ownKnob Try.prog.godebug = none := by kernel_rfl
theorem laidOut : laidOutB Try.prog = true := by kernel_rfl
theorem fit_window {x : SV} (h : FitV cx 4 24 x) : ∃ a b : List Int, x = W2 a b ∧ a.length ≤ maxLen ∧ b.length ≤ maxLen ∧ (∀ n ∈ a, inI n) ∧ ∀ n ∈ b, inI n := by
  obtain ⟨e, h1⟩ := fitV_agg rfl rfl h
  obtain ⟨p, q, e1, h2, p', q', e2, h3, e3⟩ := fit_struct (by rfl) (by rfl) h1
  obtain ⟨l, rfl, l1, l2⟩ := fit_ints (by rfl) (by rfl) (by rfl) h2
  obtain ⟨l', rfl, l1', l2'⟩ := fit_ints (by rfl) (by rfl) (by rfl) h3
  refine ⟨l, l', ?_, l1, l1', fun n hn => l2 n hn, fun n hn => l2' n hn⟩
  rw [e, e1, e2, e3]; rfl
theorem fit_oneInt {d : Nat} {x : SV} (h : FitV cx (d + 1) 3 x) : ∃ n : Int, x = I n ∧ inI n := by
  obtain ⟨e, h1⟩ := fitV_one rfl rfl h
  obtain ⟨n, e1, h2, h3⟩ := fit_i64 (by rfl) (by rfl) h1
  exact ⟨n, by rw [e, e1], h2, h3⟩
theorem walk (xs : List SV) (h : FitL cx 4 Try.f4.params.toList xs) : Sat cx.P cx.gl 4 xs (.one (false, [.lit (.bool true)])) := by
  rw [Try.params4] at h
  obtain ⟨x, y, rfl, h1, h2⟩ := fitL2 (t := 24) (u := 3) h
  obtain ⟨a, b, rfl, ha, hb, _⟩ := fit_window h1
  obtain ⟨n, rfl, hn⟩ := fit_oneInt h2
  exact forceMirrored_sat a b n ha hb hn
set_option maxRecDepth 100000 in
theorem lifted (os : Os) (started : os.Started) (H : Type) (enc : TypeId × Value → H) :
    ReturnsInHanded {} Try.checked os 4 .any (Rows.forceMirroredSpec.pre6 enc Try.prog Try.f4 Rows.forceMirroredRow.domain false) (Rows.forceMirroredSpec.post enc Try.prog Try.f4 false true false false) := by
  refine returnsInHanded_of_change (C := Try.checked) own started (by kernel_rfl) Try.func4
    (ChangeSpec.witness6 (enc := enc) (C := Try.checked) false ⟨#[], #[.agg #[.slice none 0 0, .slice none 0 0], .int .i64 0], []⟩ 8 (by kernel_rfl) (by kernel_rfl) (by kernel_rfl) (by kernel_rfl)) ?_
  intro W base args ds gs before hval hW _ _
  exact law_calls (C := cx) (d := 4) cx_ok rfl laidOut (by kernel_rfl) (by kernel_rfl) rfl (by kernel_rfl) rfl
    (fun ds hl => by
      rw [Try.params4] at hl
      match ds, hl with
      | [d1, d2], _ => rfl) walk hval hW
theorem over : Rows.forceMirroredRow.holds Try.pinned (OpenSpec.ofChange Rows.forceMirroredSpec) :=
  OpenClaim.holds_of_wide 4 Try.f4 rfl rfl rfl rfl rfl rfl rfl ⟨rfl, rfl, rfl, rfl, rfl⟩ rfl rfl rfl rfl rfl (by kernel_rfl) Try.func4 (by kernel_rfl)
    (of_decide_eq_true (by kernel_rfl)) (by unfold Func.isWrapper; first | (rw [if_pos (by decide +kernel)]; kernel_rfl) | (rw [if_neg (by decide +kernel)]; exact ⟨rfl, rfl⟩))
    (fun os started H enc _ => lifted os started H enc)
theorem proved : Rows.ForceMirroredSaid := over
end Go.Proofs.Ytlbmcaljkjbjpaa.forceMirrored
