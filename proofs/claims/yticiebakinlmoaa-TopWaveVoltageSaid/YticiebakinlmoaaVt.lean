/- Parts of the proof, joined. -/
import Derived.Test.YticiebakinlmoaaVa
namespace Go.Proofs.Try
open Go.Fw Go.IntWalk Go.Plain
set_option maxRecDepth 100000
set_option maxHeartbeats 8000000
abbrev F9 (a b c d e f g h i : Int) : SV := (true, [J a, J b, J c, J d, J e, J f, J g, J h, J i])
abbrev vB (b : Bool) : Option DV := some (.val (false, [.st (.lit (.bool b))]))
abbrev in63 (n : Int) : Prop := 0 ≤ n ∧ n ≤ 63
abbrev inPk (n : Int) : Prop := 1 ≤ n ∧ n ≤ 4196
abbrev figIn (t p q a b c d e f : Int) : Prop := (in63 t ∧ inPk p ∧ inPk q) ∧ (in63 a ∧ in63 b) ∧ (in63 c ∧ in63 d) ∧ in63 e ∧ in63 f
abbrev figOrd (p q a b c d e f : Int) : Prop := p ≤ q ∧ a ≤ b ∧ c ≤ d ∧ e ≤ f
/-- The error of figures. -/
def figErr (t p q a b c d e f : Int) : Int := if figIn t p q a b c d e f then (if figOrd p q a b c d e f then 0 else 9) else 2
def chkIn (b0 b1 b2 b3 : Bool) : Nat → Bool
  | 0 => b0
  | 1 => b0 && b1
  | 2 => (b0 && b1) && b2
  | _ => ((b0 && b1) && b2) && b3
theorem checkFigures_core (t p q a b c d e f : Int) (x1 x2 x3 x4 x5 x6 x7 x8 x9 : Bool) (h1 : Sat cx.P cx.gl 40 [I t, I 0, I 63] (.one (Bo x1))) (h2 : Sat cx.P cx.gl 40 [I p, I 1, I 4196] (.one (Bo x2))) (h3 : Sat cx.P cx.gl 40 [I q, I 1, I 4196] (.one (Bo x3)))
    (h4 : Sat cx.P cx.gl 40 [I a, I 0, I 63] (.one (Bo x4))) (h5 : Sat cx.P cx.gl 40 [I b, I 0, I 63] (.one (Bo x5))) (h6 : Sat cx.P cx.gl 40 [I c, I 0, I 63] (.one (Bo x6))) (h7 : Sat cx.P cx.gl 40 [I d, I 0, I 63] (.one (Bo x7))) (h8 : Sat cx.P cx.gl 40 [I e, I 0, I 63] (.one (Bo x8))) (h9 : Sat cx.P cx.gl 40 [I f, I 0, I 63] (.one (Bo x9))) :
    Sat cx.P cx.gl 30 [F9 t p q a b c d e f] (.one (I (fs [if chkIn (x1 && x2 && x3) (x4 && x5) (x6 && x7) (x8 && x9) 3 = true then 0 else 2, if chkIn (decide (p ≤ q)) (decide (a ≤ b)) (decide (c ≤ d)) (decide (e ≤ f)) 3 = true then 0 else 9]))) := by
  refine Sat_of_awp (fn := f30) cx_ok (by kernel_rfl) (by kernel_rfl) rfl (by kernel_rfl) (Nat.le_of_ble_eq_true rfl) ?_
  refine aS ?_; (refine aR ?_; conv => whnf); repeat ((first | refine oP rfl ?_ | refine rP rfl (fun _ z => z) ?_ | refine oN ?_); (try conv => whnf))
  refine awp_cut (ι := Unit) (fun _ => True) (fun _ => ⟨[(1, pP 0), (3, vB (x1 && x2 && x3))], [(0, some (.box 38 [.st (J t), .st (J p), .st (J q), .st (J a), .st (J b), .st (J c), .st (J d), .st (J e), .st (J f)]))], 1⟩) ?_ ?_
  · refine aR ?_
    (conv => whnf)
    repeat' ((first | refine oP rfl ?_ | refine rP rfl (fun _ z => z) ?_ | (refine kO 3 rfl ?_; refine rLdb rfl rfl rfl rfl rfl rfl rfl ?_) | (refine kO 7 rfl ?_; first | refine rG (fun _ z => ⟨_, h1, z⟩) ?_ | refine rG (fun _ z => ⟨_, h2, z⟩) ?_ | refine rG (fun _ z => ⟨_, h3, z⟩) ?_) | refine oN ?_ | refine oY rfl rfl rfl ?_ | refine oZ rfl rfl rfl ?_ | refine opsA_ifp rfl rfl rfl (fun h => ?_) (fun h => ?_)) <;> (try conv => whnf))
    all_goals ((try simp only [Bool.not_eq_true] at *); subst_vars; exact ⟨(), trivial, canon_auto (by kernel_rfl)⟩)
  · generalize (x1 && x2 && x3) = z0
    intro _ _
    repeat ((first | refine oP rfl ?_ | refine rP rfl (fun _ z => z) ?_ | (refine kO 1 rfl ?_; refine rG (fun _ z => z) ?_) | (refine kO 3 rfl ?_; first | refine rLdb rfl rfl rfl rfl rfl rfl rfl ?_ | refine rG (fun _ z => z) ?_) | refine oN ?_ | refine aS ?_ | refine aR ?_ | refine aB ?_ | refine aL ?_); (try conv => whnf))
    refine loop_ind (ι := Nat) (fun i => i ≤ 3) (fun i => 3 - i) (fun i => ⟨[(3, vB (chkIn z0 (x4 && x5) (x6 && x7) (x8 && x9) i)), (4, vB (chkIn (decide (p ≤ q)) (decide (a ≤ b)) (decide (c ≤ d)) (decide (e ≤ f)) i)), (35, some (.val (true, [.st (J a), .st (J b), .st (J c), .st (J d), .st (J e), .st (J f)]))), (36, vI i)], [], 1⟩) 0 (canon_auto (by kernel_rfl)) (Nat.zero_le _) ?_
    intro i hi
    rcases (show i = 0 ∨ i = 1 ∨ i = 2 ∨ i = 3 by omega) with rfl | rfl | rfl | rfl
    · have e1 : chkIn z0 (x4 && x5) (x6 && x7) (x8 && x9) (0 + 1) = (chkIn z0 (x4 && x5) (x6 && x7) (x8 && x9) 0 && (x4 && x5)) := rfl
      have e2 : chkIn (decide (p ≤ q)) (decide (a ≤ b)) (decide (c ≤ d)) (decide (e ≤ f)) (0 + 1) = (chkIn (decide (p ≤ q)) (decide (a ≤ b)) (decide (c ≤ d)) (decide (e ≤ f)) 0 && decide (a ≤ b)) := rfl
      generalize chkIn z0 (x4 && x5) (x6 && x7) (x8 && x9) 0 = z at e1 ⊢
      generalize chkIn (decide (p ≤ q)) (decide (a ≤ b)) (decide (c ≤ d)) (decide (e ≤ f)) 0 = v at e2 ⊢
      repeat' ((first | refine oP rfl ?_ | refine rP rfl (fun _ z => z) ?_ | (refine kO 1 rfl ?_; first | refine rAdd rfl rfl rfl (by omega) ?_ | refine rG (fun _ z => z) ?_) | (refine kO 3 rfl ?_; refine rLdb rfl rfl rfl rfl rfl rfl rfl ?_) | (refine kO 4 rfl ?_; refine rG (fun _ z => z) ?_) | (refine kO 7 rfl ?_; first | refine rG (fun _ z => ⟨_, h4, z⟩) ?_ | refine rG (fun _ z => ⟨_, h5, z⟩) ?_) | refine oN ?_ | refine aS ?_ | refine aR ?_ | refine aK ?_ | refine aB ?_ | refine aC rfl ?_ | refine bT ?_ | refine oY rfl rfl rfl ?_ | refine oZ rfl rfl rfl ?_ | refine rG (fun _ z => ⟨(by (omega)), z⟩) ?_ | refine opsA_ifp rfl rfl rfl (fun h => ?_) (fun h => ?_)) <;> (try conv => whnf))
      all_goals ((try simp only [Bool.not_eq_true] at *); subst_vars; exact ⟨0 + 1, by omega, by omega, canon_auto (by rw [e1, e2]; kernel_rfl)⟩)
    · have e1 : chkIn z0 (x4 && x5) (x6 && x7) (x8 && x9) (1 + 1) = (chkIn z0 (x4 && x5) (x6 && x7) (x8 && x9) 1 && (x6 && x7)) := rfl
      have e2 : chkIn (decide (p ≤ q)) (decide (a ≤ b)) (decide (c ≤ d)) (decide (e ≤ f)) (1 + 1) = (chkIn (decide (p ≤ q)) (decide (a ≤ b)) (decide (c ≤ d)) (decide (e ≤ f)) 1 && decide (c ≤ d)) := rfl
      generalize chkIn z0 (x4 && x5) (x6 && x7) (x8 && x9) 1 = z at e1 ⊢
      generalize chkIn (decide (p ≤ q)) (decide (a ≤ b)) (decide (c ≤ d)) (decide (e ≤ f)) 1 = v at e2 ⊢
      repeat' ((first | refine oP rfl ?_ | refine rP rfl (fun _ z => z) ?_ | (refine kO 1 rfl ?_; first | refine rAdd rfl rfl rfl (by omega) ?_ | refine rG (fun _ z => z) ?_) | (refine kO 3 rfl ?_; refine rLdb rfl rfl rfl rfl rfl rfl rfl ?_) | (refine kO 4 rfl ?_; refine rG (fun _ z => z) ?_) | (refine kO 7 rfl ?_; first | refine rG (fun _ z => ⟨_, h6, z⟩) ?_ | refine rG (fun _ z => ⟨_, h7, z⟩) ?_) | refine oN ?_ | refine aS ?_ | refine aR ?_ | refine aK ?_ | refine aB ?_ | refine aC rfl ?_ | refine bT ?_ | refine oY rfl rfl rfl ?_ | refine oZ rfl rfl rfl ?_ | refine rG (fun _ z => ⟨(by (omega)), z⟩) ?_ | refine opsA_ifp rfl rfl rfl (fun h => ?_) (fun h => ?_)) <;> (try conv => whnf))
      all_goals ((try simp only [Bool.not_eq_true] at *); subst_vars; exact ⟨1 + 1, by omega, by omega, canon_auto (by rw [e1, e2]; kernel_rfl)⟩)
    · have e1 : chkIn z0 (x4 && x5) (x6 && x7) (x8 && x9) (2 + 1) = (chkIn z0 (x4 && x5) (x6 && x7) (x8 && x9) 2 && (x8 && x9)) := rfl
      have e2 : chkIn (decide (p ≤ q)) (decide (a ≤ b)) (decide (c ≤ d)) (decide (e ≤ f)) (2 + 1) = (chkIn (decide (p ≤ q)) (decide (a ≤ b)) (decide (c ≤ d)) (decide (e ≤ f)) 2 && decide (e ≤ f)) := rfl
      generalize chkIn z0 (x4 && x5) (x6 && x7) (x8 && x9) 2 = z at e1 ⊢
      generalize chkIn (decide (p ≤ q)) (decide (a ≤ b)) (decide (c ≤ d)) (decide (e ≤ f)) 2 = v at e2 ⊢
      repeat' ((first | refine oP rfl ?_ | refine rP rfl (fun _ z => z) ?_ | (refine kO 1 rfl ?_; first | refine rAdd rfl rfl rfl (by omega) ?_ | refine rG (fun _ z => z) ?_) | (refine kO 3 rfl ?_; refine rLdb rfl rfl rfl rfl rfl rfl rfl ?_) | (refine kO 4 rfl ?_; refine rG (fun _ z => z) ?_) | (refine kO 7 rfl ?_; first | refine rG (fun _ z => ⟨_, h8, z⟩) ?_ | refine rG (fun _ z => ⟨_, h9, z⟩) ?_) | refine oN ?_ | refine aS ?_ | refine aR ?_ | refine aK ?_ | refine aB ?_ | refine aC rfl ?_ | refine bT ?_ | refine oY rfl rfl rfl ?_ | refine oZ rfl rfl rfl ?_ | refine rG (fun _ z => ⟨(by (omega)), z⟩) ?_ | refine opsA_ifp rfl rfl rfl (fun h => ?_) (fun h => ?_)) <;> (try conv => whnf))
      all_goals ((try simp only [Bool.not_eq_true] at *); subst_vars; exact ⟨2 + 1, by omega, by omega, canon_auto (by rw [e1, e2]; kernel_rfl)⟩)
    · generalize chkIn z0 (x4 && x5) (x6 && x7) (x8 && x9) 3 = z
      generalize chkIn (decide (p ≤ q)) (decide (a ≤ b)) (decide (c ≤ d)) (decide (e ≤ f)) 3 = v
      repeat ((first | refine oP rfl ?_ | refine rP rfl (fun _ z => z) ?_ | (refine kO 1 rfl ?_; refine rG (fun _ z => z) ?_) | (refine kO 7 rfl ?_; first | refine rG (fun _ z => ⟨_, wUnless_sat _ _, z⟩) ?_ | refine rG (fun _ z => ⟨_, wFirst_fs _ (Nat.le_of_ble_eq_true rfl), z⟩) ?_) | refine oN ?_ | refine aS ?_ | refine aR ?_ | refine aX ?_ | refine aT ?_ | refine aC rfl ?_ | refine bF ?_); (try conv => whnf))
      (rfl)
theorem figErr_eq (t p q a b c d e f : Int) : fs [if chkIn (decide (in63 t) && decide (inPk p) && decide (inPk q)) (decide (in63 a) && decide (in63 b)) (decide (in63 c) && decide (in63 d)) (decide (in63 e) && decide (in63 f)) 3 = true then 0 else 2, if chkIn (decide (p ≤ q)) (decide (a ≤ b)) (decide (c ≤ d)) (decide (e ≤ f)) 3 = true then 0 else 9] = figErr t p q a b c d e f := by
  unfold figErr chkIn
  simp only [← Bool.decide_and, decide_eq_true_eq]
  by_cases h : figIn t p q a b c d e f
  · rw [if_pos h, if_pos (by obtain ⟨⟨h1, h2, h3⟩, h4, h5, h6⟩ := h; exact ⟨⟨⟨⟨⟨h1, h2⟩, h3⟩, h4⟩, h5⟩, h6⟩)]
    by_cases h' : figOrd p q a b c d e f
    · rw [if_pos h', if_pos (by obtain ⟨k1, k2, k3, k4⟩ := h'; exact ⟨⟨⟨k1, k2⟩, k3⟩, k4⟩)]; rfl
    · rw [if_neg h', if_neg (by intro k; exact h' ⟨k.1.1.1, k.1.1.2, k.1.2, k.2⟩)]; rfl
  · rw [if_neg h, if_neg (by intro k; exact h ⟨⟨k.1.1.1.1.1, k.1.1.1.1.2, k.1.1.1.2⟩, k.1.1.2, k.1.2, k.2⟩)]; simp [fs]
theorem checkFigures_sat (t p q a b c d e f : Int) : Sat cx.P cx.gl 30 [F9 t p q a b c d e f] (.one (I (figErr t p q a b c d e f))) := by
  rw [← figErr_eq]
  exact checkFigures_core _ _ _ _ _ _ _ _ _ _ _ _ _ _ _ _ _ _ (wWithin_p _ _ _) (wWithin_p _ _ _) (wWithin_p _ _ _) (wWithin_p _ _ _) (wWithin_p _ _ _) (wWithin_p _ _ _) (wWithin_p _ _ _) (wWithin_p _ _ _) (wWithin_p _ _ _)
end Go.Proofs.Try

namespace Go.Proofs.Try
open Go.Fw Go.IntWalk Go.Plain
set_option maxRecDepth 100000
set_option maxHeartbeats 8000000
theorem figErr_zero {t p q a b c d e f : Int} (h : figErr t p q a b c d e f = 0) : figIn t p q a b c d e f ∧ figOrd p q a b c d e f := by
  unfold figErr at h
  split at h
  · rename_i h1
    split at h
    · rename_i h2; exact ⟨h1, h2⟩
    · omega
  · omega
/-- The times of figures. -/
def frontLo (a b c d s : Int) : Int := 5 * (c - b) * s / 3
def frontHi (a b c d s : Int) : Int := -(-(5 * (d - a) * s) / 3)
def tailLo (a b c d e f s : Int) : Int := (2 * e - 3 * b + c) * s / 2
def tailHi (a b c d e f s : Int) : Int := -(-((2 * f - 3 * a + d) * s) / 2)
def timeErr (t p q a b c d e f s : Int) : Int := if figErr t p q a b c d e f ≠ 0 then figErr t p q a b c d e f else if 1 ≤ s ∧ s ≤ 1000000 then 0 else 2
theorem time_mid {x s : Int} (hx : -1000 ≤ x ∧ x ≤ 1000) (hs : 1 ≤ s ∧ s ≤ 1000000) : -1000000000 ≤ x * s ∧ x * s ≤ 1000000000 := mulS (A := 1000) (B := 1000000) hx (by omega) (by omega)
end Go.Proofs.Try
