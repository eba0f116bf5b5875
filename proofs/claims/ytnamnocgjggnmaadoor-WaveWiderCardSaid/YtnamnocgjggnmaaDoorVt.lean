/- Parts of the proof, joined. -/
import Derived.Test.YtnamnocgjggnmaaDoorVa
namespace Go.Proofs.Tryd
open Go.Fw Go.IntWalk Go.Plain
set_option maxRecDepth 100000
set_option maxHeartbeats 8000000
abbrev F9 (a b c d e f g h i : Int) : SV := (true, [J a, J b, J c, J d, J e, J f, J g, J h, J i])
abbrev vB (b : Bool) : Option DV := some (.val (false, [.st (.lit (.bool b))]))
abbrev in63 (n : Int) : Prop := 0 ≤ n ∧ n ≤ 63
abbrev inPk (n : Int) : Prop := 1 ≤ n ∧ n ≤ 4196
abbrev figIn (t p q a b c d e f : Int) : Prop := (in63 t ∧ inPk p ∧ inPk q) ∧ (in63 a ∧ in63 b) ∧ (in63 c ∧ in63 d) ∧ in63 e ∧ in63 f
abbrev figOrd (p q a b c d e f : Int) : Prop := p ≤ q ∧ a ≤ b ∧ c ≤ d ∧ e ≤ f
/-- The error of figures. -/
def figErr (t p q a b c d e f : Int) : Int := if figIn t p q a b c d e f then (if figOrd p q a b c d e f then 0 else 9) else 2
def chkIn (b0 b1 b2 b3 : Bool) : Nat → Bool
  | 0 => b0
  | 1 => b0 && b1
  | 2 => (b0 && b1) && b2
  | _ => ((b0 && b1) && b2) && b3
theorem checkFigures_core (t p q a b c d e f : Int) (x1 x2 x3 x4 x5 x6 x7 x8 x9 : Bool) (h1 : Sat cx.P cx.gl 76 [I t, I 0, I 63] (.one (Bo x1))) (h2 : Sat cx.P cx.gl 76 [I p, I 1, I 4196] (.one (Bo x2))) (h3 : Sat cx.P cx.gl 76 [I q, I 1, I 4196] (.one (Bo x3)))
    (h4 : Sat cx.P cx.gl 76 [I a, I 0, I 63] (.one (Bo x4))) (h5 : Sat cx.P cx.gl 76 [I b, I 0, I 63] (.one (Bo x5))) (h6 : Sat cx.P cx.gl 76 [I c, I 0, I 63] (.one (Bo x6))) (h7 : Sat cx.P cx.gl 76 [I d, I 0, I 63] (.one (Bo x7))) (h8 : Sat cx.P cx.gl 76 [I e, I 0, I 63] (.one (Bo x8))) (h9 : Sat cx.P cx.gl 76 [I f, I 0, I 63] (.one (Bo x9))) :
    Sat cx.P cx.gl 48 [F9 t p q a b c d e f] (.one (I (fs [if chkIn (x1 && x2 && x3) (x4 && x5) (x6 && x7) (x8 && x9) 3 = true then 0 else 2, if chkIn (decide (p ≤ q)) (decide (a ≤ b)) (decide (c ≤ d)) (decide (e ≤ f)) 3 = true then 0 else 9]))) := by
  refine Sat_of_awp (fn := f48) cx_ok (by kernel_rfl) (by kernel_rfl) rfl (by kernel_rfl) (Nat.le_of_ble_eq_true rfl) ?_
  refine aS ?_; (refine aR ?_; conv => whnf); repeat ((first | refine oP rfl ?_ | refine rP rfl (fun _ z => z) ?_ | refine oN ?_); (try conv => whnf))
  refine awp_cut (ι := Unit) (fun _ => True) (fun _ => ⟨[(1, pP 0), (3, vB (x1 && x2 && x3))], [(0, some (.box 51 [.st (J t), .st (J p), .st (J q), .st (J a), .st (J b), .st (J c), .st (J d), .st (J e), .st (J f)]))], 1⟩) ?_ ?_
  · refine aR ?_
    (conv => whnf)
    repeat' ((first | refine oP rfl ?_ | refine rP rfl (fun _ z => z) ?_ | (refine kO 3 rfl ?_; refine rLdb rfl rfl rfl rfl rfl rfl rfl ?_) | (refine kO 7 rfl ?_; first | refine rG (fun _ z => ⟨_, h1, z⟩) ?_ | refine rG (fun _ z => ⟨_, h2, z⟩) ?_ | refine rG (fun _ z => ⟨_, h3, z⟩) ?_) | refine oN ?_ | refine oY rfl rfl rfl ?_ | refine oZ rfl rfl rfl ?_ | refine opsA_ifp rfl rfl rfl (fun h => ?_) (fun h => ?_)) <;> (try conv => whnf))
    all_goals ((try simp only [Bool.not_eq_true] at *); subst_vars; exact ⟨(), trivial, canon_auto (by kernel_rfl)⟩)
  · generalize (x1 && x2 && x3) = z0
    intro _ _
    repeat ((first | refine oP rfl ?_ | refine rP rfl (fun _ z => z) ?_ | (refine kO 1 rfl ?_; refine rG (fun _ z => z) ?_) | (refine kO 3 rfl ?_; first | refine rLdb rfl rfl rfl rfl rfl rfl rfl ?_ | refine rG (fun _ z => z) ?_) | refine oN ?_ | refine aS ?_ | refine aR ?_ | refine aB ?_ | refine aL ?_); (try conv => whnf))
    refine loop_ind (ι := Nat) (fun i => i ≤ 3) (fun i => 3 - i) (fun i => ⟨[(3, vB (chkIn z0 (x4 && x5) (x6 && x7) (x8 && x9) i)), (4, vB (chkIn (decide (p ≤ q)) (decide (a ≤ b)) (decide (c ≤ d)) (decide (e ≤ f)) i)), (35, some (.val (true, [.st (J a), .st (J b), .st (J c), .st (J d), .st (J e), .st (J f)]))), (36, vI i)], [], 1⟩) 0 (canon_auto (by kernel_rfl)) (Nat.zero_le _) ?_
    intro i hi
    rcases (show i = 0 ∨ i = 1 ∨ i = 2 ∨ i = 3 by omega) with rfl | rfl | rfl | rfl
    · have e1 : chkIn z0 (x4 && x5) (x6 && x7) (x8 && x9) (0 + 1) = (chkIn z0 (x4 && x5) (x6 && x7) (x8 && x9) 0 && (x4 && x5)) := rfl
      have e2 : chkIn (decide (p ≤ q)) (decide (a ≤ b)) (decide (c ≤ d)) (decide (e ≤ f)) (0 + 1) = (chkIn (decide (p ≤ q)) (decide (a ≤ b)) (decide (c ≤ d)) (decide (e ≤ f)) 0 && decide (a ≤ b)) := rfl
      generalize chkIn z0 (x4 && x5) (x6 && x7) (x8 && x9) 0 = z at e1 ⊢
      generalize chkIn (decide (p ≤ q)) (decide (a ≤ b)) (decide (c ≤ d)) (decide (e ≤ f)) 0 = v at e2 ⊢
      repeat' ((first | refine oP rfl ?_ | refine rP rfl (fun _ z => z) ?_ | (refine kO 1 rfl ?_; first | refine rAdd rfl rfl rfl (by omega) ?_ | refine rG (fun _ z => z) ?_) | (refine kO 3 rfl ?_; refine rLdb rfl rfl rfl rfl rfl rfl rfl ?_) | (refine kO 4 rfl ?_; refine rG (fun _ z => z) ?_) | (refine kO 7 rfl ?_; first | refine rG (fun _ z => ⟨_, h4, z⟩) ?_ | refine rG (fun _ z => ⟨_, h5, z⟩) ?_) | refine oN ?_ | refine aS ?_ | refine aR ?_ | refine aK ?_ | refine aB ?_ | refine aC rfl ?_ | refine bT ?_ | refine oY rfl rfl rfl ?_ | refine oZ rfl rfl rfl ?_ | refine rG (fun _ z => ⟨(by (omega)), z⟩) ?_ | refine opsA_ifp rfl rfl rfl (fun h => ?_) (fun h => ?_)) <;> (try conv => whnf))
      all_goals ((try simp only [Bool.not_eq_true] at *); subst_vars; exact ⟨0 + 1, by omega, by omega, canon_auto (by rw [e1, e2]; kernel_rfl)⟩)
    · have e1 : chkIn z0 (x4 && x5) (x6 && x7) (x8 && x9) (1 + 1) = (chkIn z0 (x4 && x5) (x6 && x7) (x8 && x9) 1 && (x6 && x7)) := rfl
      have e2 : chkIn (decide (p ≤ q)) (decide (a ≤ b)) (decide (c ≤ d)) (decide (e ≤ f)) (1 + 1) = (chkIn (decide (p ≤ q)) (decide (a ≤ b)) (decide (c ≤ d)) (decide (e ≤ f)) 1 && decide (c ≤ d)) := rfl
      generalize chkIn z0 (x4 && x5) (x6 && x7) (x8 && x9) 1 = z at e1 ⊢
      generalize chkIn (decide (p ≤ q)) (decide (a ≤ b)) (decide (c ≤ d)) (decide (e ≤ f)) 1 = v at e2 ⊢
      repeat' ((first | refine oP rfl ?_ | refine rP rfl (fun _ z => z) ?_ | (refine kO 1 rfl ?_; first | refine rAdd rfl rfl rfl (by omega) ?_ | refine rG (fun _ z => z) ?_) | (refine kO 3 rfl ?_; refine rLdb rfl rfl rfl rfl rfl rfl rfl ?_) | (refine kO 4 rfl ?_; refine rG (fun _ z => z) ?_) | (refine kO 7 rfl ?_; first | refine rG (fun _ z => ⟨_, h6, z⟩) ?_ | refine rG (fun _ z => ⟨_, h7, z⟩) ?_) | refine oN ?_ | refine aS ?_ | refine aR ?_ | refine aK ?_ | refine aB ?_ | refine aC rfl ?_ | refine bT ?_ | refine oY rfl rfl rfl ?_ | refine oZ rfl rfl rfl ?_ | refine rG (fun _ z => ⟨(by (omega)), z⟩) ?_ | refine opsA_ifp rfl rfl rfl (fun h => ?_) (fun h => ?_)) <;> (try conv => whnf))
      all_goals ((try simp only [Bool.not_eq_true] at *); subst_vars; exact ⟨1 + 1, by omega, by omega, canon_auto (by rw [e1, e2]; kernel_rfl)⟩)
    · have e1 : chkIn z0 (x4 && x5) (x6 && x7) (x8 && x9) (2 + 1) = (chkIn z0 (x4 && x5) (x6 && x7) (x8 && x9) 2 && (x8 && x9)) := rfl
      have e2 : chkIn (decide (p ≤ q)) (decide (a ≤ b)) (decide (c ≤ d)) (decide (e ≤ f)) (2 + 1) = (chkIn (decide (p ≤ q)) (decide (a ≤ b)) (decide (c ≤ d)) (decide (e ≤ f)) 2 && decide (e ≤ f)) := rfl
      generalize chkIn z0 (x4 && x5) (x6 && x7) (x8 && x9) 2 = z at e1 ⊢
      generalize chkIn (decide (p ≤ q)) (decide (a ≤ b)) (decide (c ≤ d)) (decide (e ≤ f)) 2 = v at e2 ⊢
      repeat' ((first | refine oP rfl ?_ | refine rP rfl (fun _ z => z) ?_ | (refine kO 1 rfl ?_; first | refine rAdd rfl rfl rfl (by omega) ?_ | refine rG (fun _ z => z) ?_) | (refine kO 3 rfl ?_; refine rLdb rfl rfl rfl rfl rfl rfl rfl ?_) | (refine kO 4 rfl ?_; refine rG (fun _ z => z) ?_) | (refine kO 7 rfl ?_; first | refine rG (fun _ z => ⟨_, h8, z⟩) ?_ | refine rG (fun _ z => ⟨_, h9, z⟩) ?_) | refine oN ?_ | refine aS ?_ | refine aR ?_ | refine aK ?_ | refine aB ?_ | refine aC rfl ?_ | refine bT ?_ | refine oY rfl rfl rfl ?_ | refine oZ rfl rfl rfl ?_ | refine rG (fun _ z => ⟨(by (omega)), z⟩) ?_ | refine opsA_ifp rfl rfl rfl (fun h => ?_) (fun h => ?_)) <;> (try conv => whnf))
      all_goals ((try simp only [Bool.not_eq_true] at *); subst_vars; exact ⟨2 + 1, by omega, by omega, canon_auto (by rw [e1, e2]; kernel_rfl)⟩)
    · generalize chkIn z0 (x4 && x5) (x6 && x7) (x8 && x9) 3 = z
      generalize chkIn (decide (p ≤ q)) (decide (a ≤ b)) (decide (c ≤ d)) (decide (e ≤ f)) 3 = v
      repeat ((first | refine oP rfl ?_ | refine rP rfl (fun _ z => z) ?_ | (refine kO 1 rfl ?_; refine rG (fun _ z => z) ?_) | (refine kO 7 rfl ?_; first | refine rG (fun _ z => ⟨_, wUnless_sat _ _, z⟩) ?_ | refine rG (fun _ z => ⟨_, wFirst_fs _ (Nat.le_of_ble_eq_true rfl), z⟩) ?_) | refine oN ?_ | refine aS ?_ | refine aR ?_ | refine aX ?_ | refine aT ?_ | refine aC rfl ?_ | refine bF ?_); (try conv => whnf))
      (rfl)
theorem figErr_eq (t p q a b c d e f : Int) : fs [if chkIn (decide (in63 t) && decide (inPk p) && decide (inPk q)) (decide (in63 a) && decide (in63 b)) (decide (in63 c) && decide (in63 d)) (decide (in63 e) && decide (in63 f)) 3 = true then 0 else 2, if chkIn (decide (p ≤ q)) (decide (a ≤ b)) (decide (c ≤ d)) (decide (e ≤ f)) 3 = true then 0 else 9] = figErr t p q a b c d e f := by
  unfold figErr chkIn
  simp only [← Bool.decide_and, decide_eq_true_eq]
  by_cases h : figIn t p q a b c d e f
  · rw [if_pos h, if_pos (by obtain ⟨⟨h1, h2, h3⟩, h4, h5, h6⟩ := h; exact ⟨⟨⟨⟨⟨h1, h2⟩, h3⟩, h4⟩, h5⟩, h6⟩)]
    by_cases h' : figOrd p q a b c d e f
    · rw [if_pos h', if_pos (by obtain ⟨k1, k2, k3, k4⟩ := h'; exact ⟨⟨⟨k1, k2⟩, k3⟩, k4⟩)]; rfl
    · rw [if_neg h', if_neg (by intro k; exact h' ⟨k.1.1.1, k.1.1.2, k.1.2, k.2⟩)]; rfl
  · rw [if_neg h, if_neg (by intro k; exact h ⟨⟨k.1.1.1.1.1, k.1.1.1.1.2, k.1.1.1.2⟩, k.1.1.2, k.1.2, k.2⟩)]; simp [fs]
theorem checkFigures_sat (t p q a b c d e f : Int) : Sat cx.P cx.gl 48 [F9 t p q a b c d e f] (.one (I (figErr t p q a b c d e f))) := by
  rw [← figErr_eq]
  exact checkFigures_core _ _ _ _ _ _ _ _ _ _ _ _ _ _ _ _ _ _ (wWithin_p _ _ _) (wWithin_p _ _ _) (wWithin_p _ _ _) (wWithin_p _ _ _) (wWithin_p _ _ _) (wWithin_p _ _ _) (wWithin_p _ _ _) (wWithin_p _ _ _) (wWithin_p _ _ _)
end Go.Proofs.Tryd

namespace Go.Proofs.Tryd
open Go.Fw Go.IntWalk Go.Plain
set_option maxRecDepth 100000
set_option maxHeartbeats 8000000
theorem figErr_zero {t p q a b c d e f : Int} (h : figErr t p q a b c d e f = 0) : figIn t p q a b c d e f ∧ figOrd p q a b c d e f := by
  unfold figErr at h
  split at h
  · rename_i h1
    split at h
    · rename_i h2; exact ⟨h1, h2⟩
    · omega
  · omega
theorem refFigErr_sat (t p q a b c d e f : Int) : Sat cx.P cx.gl 28 [F9 t p q a b c d e f] (.one (I (figErr t p q a b c d e f))) := by
  unfold figErr
  by_cases h : figIn t p q a b c d e f
  · rw [if_pos h]
    obtain ⟨⟨h1, h2, h3⟩, ⟨h4, h5⟩, ⟨h6, h7⟩, h8, h9⟩ := h
    by_cases h' : figOrd p q a b c d e f
    · rw [if_pos h']
      obtain ⟨k1, k2, k3, k4⟩ := h'
      refine Sat_of_awp (fn := f28) cx_ok (by kernel_rfl) (by kernel_rfl) rfl (by kernel_rfl) (Nat.le_of_ble_eq_true rfl) ?_
      repeat ((first | refine oP rfl ?_ | refine rP rfl (fun _ z => z) ?_ | (refine kO 2 rfl ?_; refine rG (fun _ z => z) ?_) | (refine kO 3 rfl ?_; first | refine rLdb rfl rfl rfl rfl rfl rfl rfl ?_ | refine rG (fun _ z => z) ?_) | (refine kO 7 rfl ?_; refine rG (fun _ z => ⟨_, within_p _ _ _, z⟩) ?_) | refine oN ?_ | refine aS ?_ | refine aR ?_ | refine aK ?_ | refine aB ?_ | refine aC rfl ?_ | refine bPf (by omega) ?_ | refine aL ?_ | refine oY rfl rfl rfl ?_ | refine oUf rfl rfl rfl (by omega) ?_); (try conv => whnf))
      refine loop_round ?_
      repeat ((first | refine oP rfl ?_ | refine rP rfl (fun _ z => z) ?_ | (refine kO 1 rfl ?_; first | refine rAdd rfl rfl rfl (by omega) ?_ | refine rG (fun _ z => z) ?_) | (refine kO 2 rfl ?_; refine rG (fun _ z => z) ?_) | (refine kO 3 rfl ?_; refine rG (fun _ z => ⟨_, rfl, z⟩) ?_) | (refine kO 5 rfl ?_; refine rIdoN rfl rfl rfl rfl rfl rfl rfl rfl (by exact Nat.le_of_ble_eq_true rfl) ?_) | (refine kO 7 rfl ?_; refine rG (fun _ z => ⟨_, within_p _ _ _, z⟩) ?_) | (refine kO 6 rfl ?_; refine rLenov rfl rfl rfl rfl rfl rfl rfl ?_) | refine oN ?_ | refine aS ?_ | refine aR ?_ | refine aK ?_ | refine aB ?_ | refine aC rfl ?_ | refine bT ?_ | refine bPf (by omega) ?_ | refine oY rfl rfl rfl ?_ | refine oUf rfl rfl rfl (by omega) ?_); (try conv => whnf))
      refine loop_round ?_
      repeat ((first | refine oP rfl ?_ | refine rP rfl (fun _ z => z) ?_ | (refine kO 1 rfl ?_; first | refine rAdd rfl rfl rfl (by omega) ?_ | refine rG (fun _ z => z) ?_) | (refine kO 2 rfl ?_; refine rG (fun _ z => z) ?_) | (refine kO 3 rfl ?_; refine rG (fun _ z => ⟨_, rfl, z⟩) ?_) | (refine kO 5 rfl ?_; refine rIdoN rfl rfl rfl rfl rfl rfl rfl rfl (by exact Nat.le_of_ble_eq_true rfl) ?_) | (refine kO 7 rfl ?_; refine rG (fun _ z => ⟨_, within_p _ _ _, z⟩) ?_) | (refine kO 6 rfl ?_; refine rLenov rfl rfl rfl rfl rfl rfl rfl ?_) | refine oN ?_ | refine aS ?_ | refine aR ?_ | refine aK ?_ | refine aB ?_ | refine aC rfl ?_ | refine bT ?_ | refine bPf (by omega) ?_ | refine oY rfl rfl rfl ?_ | refine oUf rfl rfl rfl (by omega) ?_); (try conv => whnf))
      refine loop_round ?_
      repeat ((first | refine oP rfl ?_ | refine rP rfl (fun _ z => z) ?_ | (refine kO 1 rfl ?_; first | refine rAdd rfl rfl rfl (by omega) ?_ | refine rG (fun _ z => z) ?_) | (refine kO 2 rfl ?_; refine rG (fun _ z => z) ?_) | (refine kO 3 rfl ?_; refine rG (fun _ z => ⟨_, rfl, z⟩) ?_) | (refine kO 5 rfl ?_; refine rIdoN rfl rfl rfl rfl rfl rfl rfl rfl (by exact Nat.le_of_ble_eq_true rfl) ?_) | (refine kO 7 rfl ?_; refine rG (fun _ z => ⟨_, within_p _ _ _, z⟩) ?_) | (refine kO 6 rfl ?_; refine rLenov rfl rfl rfl rfl rfl rfl rfl ?_) | refine oN ?_ | refine aS ?_ | refine aR ?_ | refine aK ?_ | refine aB ?_ | refine aC rfl ?_ | refine bT ?_ | refine bPf (by omega) ?_ | refine oY rfl rfl rfl ?_ | refine oUf rfl rfl rfl (by omega) ?_); (try conv => whnf))
      refine loop_round ?_
      repeat ((first | refine oP rfl ?_ | refine rP rfl (fun _ z => z) ?_ | (refine kO 1 rfl ?_; refine rG (fun _ z => z) ?_) | (refine kO 3 rfl ?_; refine rLdb rfl rfl rfl rfl rfl rfl rfl ?_) | (refine kO 6 rfl ?_; refine rLenov rfl rfl rfl rfl rfl rfl rfl ?_) | refine oN ?_ | refine aS ?_ | refine aR ?_ | refine aK ?_ | refine aX ?_ | refine aB ?_ | refine aC rfl ?_ | refine bF ?_ | refine bPf (by omega) ?_ | refine aL ?_); (try conv => whnf))
      refine loop_round ?_
      repeat ((first | refine oP rfl ?_ | refine rP rfl (fun _ z => z) ?_ | (refine kO 1 rfl ?_; first | refine rAdd rfl rfl rfl (by omega) ?_ | refine rG (fun _ z => z) ?_) | (refine kO 3 rfl ?_; refine rG (fun _ z => ⟨_, rfl, z⟩) ?_) | (refine kO 5 rfl ?_; refine rIdoN rfl rfl rfl rfl rfl rfl rfl rfl (by exact Nat.le_of_ble_eq_true rfl) ?_) | (refine kO 6 rfl ?_; refine rLenov rfl rfl rfl rfl rfl rfl rfl ?_) | refine oN ?_ | refine aS ?_ | refine aR ?_ | refine aK ?_ | refine aB ?_ | refine aC rfl ?_ | refine bT ?_ | refine bPf (by omega) ?_ | refine dI (by kernel_rfl) ?_); (try conv => whnf))
      refine loop_round ?_
      repeat ((first | refine oP rfl ?_ | refine rP rfl (fun _ z => z) ?_ | (refine kO 1 rfl ?_; first | refine rAdd rfl rfl rfl (by omega) ?_ | refine rG (fun _ z => z) ?_) | (refine kO 3 rfl ?_; refine rG (fun _ z => ⟨_, rfl, z⟩) ?_) | (refine kO 5 rfl ?_; refine rIdoN rfl rfl rfl rfl rfl rfl rfl rfl (by exact Nat.le_of_ble_eq_true rfl) ?_) | (refine kO 6 rfl ?_; refine rLenov rfl rfl rfl rfl rfl rfl rfl ?_) | refine oN ?_ | refine aS ?_ | refine aR ?_ | refine aK ?_ | refine aB ?_ | refine aC rfl ?_ | refine bT ?_ | refine bPf (by omega) ?_ | refine dI (by kernel_rfl) ?_); (try conv => whnf))
      refine loop_round ?_
      repeat ((first | refine oP rfl ?_ | refine rP rfl (fun _ z => z) ?_ | (refine kO 1 rfl ?_; first | refine rAdd rfl rfl rfl (by omega) ?_ | refine rG (fun _ z => z) ?_) | (refine kO 3 rfl ?_; refine rG (fun _ z => ⟨_, rfl, z⟩) ?_) | (refine kO 5 rfl ?_; refine rIdoN rfl rfl rfl rfl rfl rfl rfl rfl (by exact Nat.le_of_ble_eq_true rfl) ?_) | (refine kO 6 rfl ?_; refine rLenov rfl rfl rfl rfl rfl rfl rfl ?_) | refine oN ?_ | refine aS ?_ | refine aR ?_ | refine aK ?_ | refine aB ?_ | refine aC rfl ?_ | refine bT ?_ | refine bPf (by omega) ?_ | refine dI (by kernel_rfl) ?_); (try conv => whnf))
      refine loop_round ?_
      repeat ((first | refine oP rfl ?_ | refine rP rfl (fun _ z => z) ?_ | (refine kO 1 rfl ?_; refine rG (fun _ z => z) ?_) | (refine kO 6 rfl ?_; refine rLenov rfl rfl rfl rfl rfl rfl rfl ?_) | refine oN ?_ | refine aS ?_ | refine aR ?_ | refine aX ?_ | refine aT ?_ | refine aC rfl ?_ | refine bF ?_); (try conv => whnf))
      (done)
    · rw [if_neg h']
      refine Sat_of_awp (fn := f28) cx_ok (by kernel_rfl) (by kernel_rfl) rfl (by kernel_rfl) (Nat.le_of_ble_eq_true rfl) ?_
      repeat ((first | refine oP rfl ?_ | refine rP rfl (fun _ z => z) ?_ | (refine kO 2 rfl ?_; refine rG (fun _ z => z) ?_) | (refine kO 3 rfl ?_; first | refine rLdb rfl rfl rfl rfl rfl rfl rfl ?_ | refine rG (fun _ z => z) ?_) | (refine kO 7 rfl ?_; refine rG (fun _ z => ⟨_, within_p _ _ _, z⟩) ?_) | refine oN ?_ | refine aS ?_ | refine aR ?_ | refine aK ?_ | refine aB ?_ | refine aC rfl ?_ | refine bPf (by omega) ?_ | refine aL ?_ | refine oY rfl rfl rfl ?_ | refine oUf rfl rfl rfl (by omega) ?_); (try conv => whnf))
      refine loop_round ?_
      repeat ((first | refine oP rfl ?_ | refine rP rfl (fun _ z => z) ?_ | (refine kO 1 rfl ?_; first | refine rAdd rfl rfl rfl (by omega) ?_ | refine rG (fun _ z => z) ?_) | (refine kO 2 rfl ?_; refine rG (fun _ z => z) ?_) | (refine kO 3 rfl ?_; refine rG (fun _ z => ⟨_, rfl, z⟩) ?_) | (refine kO 5 rfl ?_; refine rIdoN rfl rfl rfl rfl rfl rfl rfl rfl (by exact Nat.le_of_ble_eq_true rfl) ?_) | (refine kO 7 rfl ?_; refine rG (fun _ z => ⟨_, within_p _ _ _, z⟩) ?_) | (refine kO 6 rfl ?_; refine rLenov rfl rfl rfl rfl rfl rfl rfl ?_) | refine oN ?_ | refine aS ?_ | refine aR ?_ | refine aK ?_ | refine aB ?_ | refine aC rfl ?_ | refine bT ?_ | refine bPf (by omega) ?_ | refine oY rfl rfl rfl ?_ | refine oUf rfl rfl rfl (by omega) ?_); (try conv => whnf))
      refine loop_round ?_
      repeat ((first | refine oP rfl ?_ | refine rP rfl (fun _ z => z) ?_ | (refine kO 1 rfl ?_; first | refine rAdd rfl rfl rfl (by omega) ?_ | refine rG (fun _ z => z) ?_) | (refine kO 2 rfl ?_; refine rG (fun _ z => z) ?_) | (refine kO 3 rfl ?_; refine rG (fun _ z => ⟨_, rfl, z⟩) ?_) | (refine kO 5 rfl ?_; refine rIdoN rfl rfl rfl rfl rfl rfl rfl rfl (by exact Nat.le_of_ble_eq_true rfl) ?_) | (refine kO 7 rfl ?_; refine rG (fun _ z => ⟨_, within_p _ _ _, z⟩) ?_) | (refine kO 6 rfl ?_; refine rLenov rfl rfl rfl rfl rfl rfl rfl ?_) | refine oN ?_ | refine aS ?_ | refine aR ?_ | refine aK ?_ | refine aB ?_ | refine aC rfl ?_ | refine bT ?_ | refine bPf (by omega) ?_ | refine oY rfl rfl rfl ?_ | refine oUf rfl rfl rfl (by omega) ?_); (try conv => whnf))
      refine loop_round ?_
      repeat ((first | refine oP rfl ?_ | refine rP rfl (fun _ z => z) ?_ | (refine kO 1 rfl ?_; first | refine rAdd rfl rfl rfl (by omega) ?_ | refine rG (fun _ z => z) ?_) | (refine kO 2 rfl ?_; refine rG (fun _ z => z) ?_) | (refine kO 3 rfl ?_; refine rG (fun _ z => ⟨_, rfl, z⟩) ?_) | (refine kO 5 rfl ?_; refine rIdoN rfl rfl rfl rfl rfl rfl rfl rfl (by exact Nat.le_of_ble_eq_true rfl) ?_) | (refine kO 7 rfl ?_; refine rG (fun _ z => ⟨_, within_p _ _ _, z⟩) ?_) | (refine kO 6 rfl ?_; refine rLenov rfl rfl rfl rfl rfl rfl rfl ?_) | refine oN ?_ | refine aS ?_ | refine aR ?_ | refine aK ?_ | refine aB ?_ | refine aC rfl ?_ | refine bT ?_ | refine bPf (by omega) ?_ | refine oY rfl rfl rfl ?_ | refine oUf rfl rfl rfl (by omega) ?_); (try conv => whnf))
      refine loop_round ?_
      repeat ((first | refine oP rfl ?_ | refine rP rfl (fun _ z => z) ?_ | (refine kO 1 rfl ?_; refine rG (fun _ z => z) ?_) | (refine kO 3 rfl ?_; refine rLdb rfl rfl rfl rfl rfl rfl rfl ?_) | (refine kO 6 rfl ?_; refine rLenov rfl rfl rfl rfl rfl rfl rfl ?_) | refine oN ?_ | refine aS ?_ | refine aR ?_ | refine aX ?_ | refine aC rfl ?_ | refine bF ?_); (try conv => whnf))
      by_cases k1 : p ≤ q
      · repeat ((first | refine oP rfl ?_ | refine rP rfl (fun _ z => z) ?_ | refine oN ?_ | refine aS ?_ | refine aR ?_ | refine aK ?_ | refine aB ?_ | refine bPf (by omega) ?_ | refine aL ?_); (try conv => whnf))
        refine loop_round ?_
        by_cases k2 : a ≤ b
        · repeat ((first | refine oP rfl ?_ | refine rP rfl (fun _ z => z) ?_ | (refine kO 1 rfl ?_; first | refine rAdd rfl rfl rfl (by omega) ?_ | refine rG (fun _ z => z) ?_) | (refine kO 3 rfl ?_; refine rG (fun _ z => ⟨_, rfl, z⟩) ?_) | (refine kO 5 rfl ?_; refine rIdoN rfl rfl rfl rfl rfl rfl rfl rfl (by exact Nat.le_of_ble_eq_true rfl) ?_) | (refine kO 6 rfl ?_; refine rLenov rfl rfl rfl rfl rfl rfl rfl ?_) | refine oN ?_ | refine aS ?_ | refine aR ?_ | refine aK ?_ | refine aB ?_ | refine aC rfl ?_ | refine bT ?_ | refine bPf (by omega) ?_ | refine dI (by kernel_rfl) ?_); (try conv => whnf))
          refine loop_round ?_
          by_cases k3 : c ≤ d
          · repeat ((first | refine oP rfl ?_ | refine rP rfl (fun _ z => z) ?_ | (refine kO 1 rfl ?_; first | refine rAdd rfl rfl rfl (by omega) ?_ | refine rG (fun _ z => z) ?_) | (refine kO 3 rfl ?_; refine rG (fun _ z => ⟨_, rfl, z⟩) ?_) | (refine kO 5 rfl ?_; refine rIdoN rfl rfl rfl rfl rfl rfl rfl rfl (by exact Nat.le_of_ble_eq_true rfl) ?_) | (refine kO 6 rfl ?_; refine rLenov rfl rfl rfl rfl rfl rfl rfl ?_) | refine oN ?_ | refine aS ?_ | refine aR ?_ | refine aK ?_ | refine aB ?_ | refine aC rfl ?_ | refine bT ?_ | refine bPf (by omega) ?_ | refine dI (by kernel_rfl) ?_); (try conv => whnf))
            refine loop_round ?_
            repeat ((first | refine oP rfl ?_ | refine rP rfl (fun _ z => z) ?_ | (refine kO 1 rfl ?_; refine rG (fun _ z => z) ?_) | (refine kO 3 rfl ?_; refine rG (fun _ z => ⟨_, rfl, z⟩) ?_) | (refine kO 5 rfl ?_; refine rIdoN rfl rfl rfl rfl rfl rfl rfl rfl (by exact Nat.le_of_ble_eq_true rfl) ?_) | (refine kO 6 rfl ?_; refine rLenov rfl rfl rfl rfl rfl rfl rfl ?_) | refine oN ?_ | refine aS ?_ | refine aR ?_ | refine aK ?_ | refine aB ?_ | refine aT ?_ | refine aC rfl ?_ | refine bT ?_ | refine bPt (by omega) ?_ | refine dI (by kernel_rfl) ?_); (try conv => whnf))
            (done)
          · repeat ((first | refine oP rfl ?_ | refine rP rfl (fun _ z => z) ?_ | (refine kO 1 rfl ?_; refine rG (fun _ z => z) ?_) | (refine kO 3 rfl ?_; refine rG (fun _ z => ⟨_, rfl, z⟩) ?_) | (refine kO 5 rfl ?_; refine rIdoN rfl rfl rfl rfl rfl rfl rfl rfl (by exact Nat.le_of_ble_eq_true rfl) ?_) | (refine kO 6 rfl ?_; refine rLenov rfl rfl rfl rfl rfl rfl rfl ?_) | refine oN ?_ | refine aS ?_ | refine aR ?_ | refine aK ?_ | refine aB ?_ | refine aT ?_ | refine aC rfl ?_ | refine bT ?_ | refine bPt (by omega) ?_ | refine dI (by kernel_rfl) ?_); (try conv => whnf))
            (done)
        · repeat ((first | refine oP rfl ?_ | refine rP rfl (fun _ z => z) ?_ | (refine kO 1 rfl ?_; refine rG (fun _ z => z) ?_) | (refine kO 3 rfl ?_; refine rG (fun _ z => ⟨_, rfl, z⟩) ?_) | (refine kO 5 rfl ?_; refine rIdoN rfl rfl rfl rfl rfl rfl rfl rfl (by exact Nat.le_of_ble_eq_true rfl) ?_) | (refine kO 6 rfl ?_; refine rLenov rfl rfl rfl rfl rfl rfl rfl ?_) | refine oN ?_ | refine aS ?_ | refine aR ?_ | refine aK ?_ | refine aB ?_ | refine aT ?_ | refine aC rfl ?_ | refine bT ?_ | refine bPt (by omega) ?_ | refine dI (by kernel_rfl) ?_); (try conv => whnf))
          (done)
      · repeat ((first | refine oP rfl ?_ | refine rP rfl (fun _ z => z) ?_ | refine oN ?_ | refine aS ?_ | refine aR ?_ | refine aT ?_ | refine bPt (by omega) ?_); (try conv => whnf))
        (done)
  · rw [if_neg h]
    refine Sat_of_awp (fn := f28) cx_ok (by kernel_rfl) (by kernel_rfl) rfl (by kernel_rfl) (Nat.le_of_ble_eq_true rfl) ?_
    repeat' ((first | refine oP rfl ?_ | refine rP rfl (fun _ z => z) ?_ | (refine kO 2 rfl ?_; refine rG (fun _ z => z) ?_) | (refine kO 3 rfl ?_; first | refine rLdb rfl rfl rfl rfl rfl rfl rfl ?_ | refine rG (fun _ z => z) ?_) | (refine kO 7 rfl ?_; refine rG (fun _ z => ⟨_, within_p _ _ _, z⟩) ?_) | refine oN ?_ | refine aS ?_ | refine aR ?_ | refine aK ?_ | refine aB ?_ | refine aT ?_ | refine aC rfl ?_ | refine bT ?_ | refine aL ?_ | refine oY rfl rfl rfl ?_ | refine oZ rfl rfl rfl ?_ | refine brp (fun h => ?_) (fun h => ?_) | refine opsA_unlessp rfl rfl rfl (fun h => ?_) (fun h => ?_)) <;> (try conv => whnf))
    all_goals (refine loop_round ?_)
    repeat' ((first | refine oP rfl ?_ | refine rP rfl (fun _ z => z) ?_ | (refine kO 1 rfl ?_; first | refine rAdd rfl rfl rfl (by omega) ?_ | refine rG (fun _ z => z) ?_) | (refine kO 2 rfl ?_; refine rG (fun _ z => z) ?_) | (refine kO 3 rfl ?_; refine rG (fun _ z => ⟨_, rfl, z⟩) ?_) | (refine kO 5 rfl ?_; refine rIdoN rfl rfl rfl rfl rfl rfl rfl rfl (by exact Nat.le_of_ble_eq_true rfl) ?_) | (refine kO 7 rfl ?_; refine rG (fun _ z => ⟨_, within_p _ _ _, z⟩) ?_) | (refine kO 6 rfl ?_; refine rLenov rfl rfl rfl rfl rfl rfl rfl ?_) | refine oN ?_ | refine aS ?_ | refine aR ?_ | refine aK ?_ | refine aB ?_ | refine aT ?_ | refine aC rfl ?_ | refine bT ?_ | refine oY rfl rfl rfl ?_ | refine oZ rfl rfl rfl ?_ | refine brp (fun h => ?_) (fun h => ?_) | refine opsA_unlessp rfl rfl rfl (fun h => ?_) (fun h => ?_)) <;> (try conv => whnf))
    all_goals (refine loop_round ?_)
    repeat' ((first | refine oP rfl ?_ | refine rP rfl (fun _ z => z) ?_ | (refine kO 1 rfl ?_; first | refine rAdd rfl rfl rfl (by omega) ?_ | refine rG (fun _ z => z) ?_) | (refine kO 2 rfl ?_; refine rG (fun _ z => z) ?_) | (refine kO 3 rfl ?_; refine rG (fun _ z => ⟨_, rfl, z⟩) ?_) | (refine kO 5 rfl ?_; refine rIdoN rfl rfl rfl rfl rfl rfl rfl rfl (by exact Nat.le_of_ble_eq_true rfl) ?_) | (refine kO 7 rfl ?_; refine rG (fun _ z => ⟨_, within_p _ _ _, z⟩) ?_) | (refine kO 6 rfl ?_; refine rLenov rfl rfl rfl rfl rfl rfl rfl ?_) | refine oN ?_ | refine aS ?_ | refine aR ?_ | refine aK ?_ | refine aB ?_ | refine aT ?_ | refine aC rfl ?_ | refine bT ?_ | refine oY rfl rfl rfl ?_ | refine oZ rfl rfl rfl ?_ | refine brp (fun h => ?_) (fun h => ?_) | refine opsA_unlessp rfl rfl rfl (fun h => ?_) (fun h => ?_)) <;> (try conv => whnf))
    all_goals (refine loop_round ?_)
    repeat' ((first | refine oP rfl ?_ | refine rP rfl (fun _ z => z) ?_ | (refine kO 1 rfl ?_; refine rG (fun _ z => z) ?_) | (refine kO 2 rfl ?_; refine rG (fun _ z => z) ?_) | (refine kO 3 rfl ?_; refine rG (fun _ z => ⟨_, rfl, z⟩) ?_) | (refine kO 5 rfl ?_; refine rIdoN rfl rfl rfl rfl rfl rfl rfl rfl (by exact Nat.le_of_ble_eq_true rfl) ?_) | (refine kO 7 rfl ?_; refine rG (fun _ z => ⟨_, within_p _ _ _, z⟩) ?_) | (refine kO 6 rfl ?_; refine rLenov rfl rfl rfl rfl rfl rfl rfl ?_) | refine oN ?_ | refine aS ?_ | refine aR ?_ | refine aK ?_ | refine aB ?_ | refine aT ?_ | refine aC rfl ?_ | refine bT ?_ | refine bPt (by omega) ?_ | refine oY rfl rfl rfl ?_ | refine oZ rfl rfl rfl ?_ | refine opsA_unlessp rfl rfl rfl (fun h => ?_) (fun h => ?_)) <;> (try conv => whnf))
    all_goals fail
    skip
    all_goals fail
/-- The times of figures. -/
def frontLo (_a b c _d s : Int) : Int := 5 * (c - b) * s / 3
def frontHi (a _b _c d s : Int) : Int := -(-(5 * (d - a) * s) / 3)
def tailLo (_a b c _d e _f s : Int) : Int := (2 * e - 3 * b + c) * s / 2
def tailHi (a _b _c d _e f s : Int) : Int := -(-((2 * f - 3 * a + d) * s) / 2)
def timeErr (t p q a b c d e f s : Int) : Int := if figErr t p q a b c d e f ≠ 0 then figErr t p q a b c d e f else if 1 ≤ s ∧ s ≤ 1000000 then 0 else 2
theorem time_mid {x s : Int} (hx : -1000 ≤ x ∧ x ≤ 1000) (hs : 1 ≤ s ∧ s ≤ 1000000) : -1000000000 ≤ x * s ∧ x * s ≤ 1000000000 := mulS (A := 1000) (B := 1000000) hx (by omega) (by omega)
theorem frontOf_sat (t p q a b c d e f s : Int) : Sat cx.P cx.gl 46 [F9 t p q a b c d e f, I s] (.tup (if timeErr t p q a b c d e f s = 0 then [F2 (frontLo a b c d s) (frontHi a b c d s), I 0] else [F2 0 0, I (timeErr t p q a b c d e f s)])) := by
  have hf := fs2 (figErr t p q a b c d e f) (if 1 ≤ s ∧ s ≤ 1000000 then 0 else 2)
  rw [show (if figErr t p q a b c d e f ≠ 0 then figErr t p q a b c d e f else if 1 ≤ s ∧ s ≤ 1000000 then 0 else 2) = timeErr t p q a b c d e f s from rfl] at hf
  refine Sat_of_awp (fn := f46) cx_ok (by kernel_rfl) (by kernel_rfl) rfl (by kernel_rfl) (Nat.le_of_ble_eq_true rfl) ?_
  repeat ((first | refine oP rfl ?_ | refine rP rfl (fun _ z => z) ?_ | (refine kO 1 rfl ?_; refine rG (fun _ z => z) ?_) | (refine kO 3 rfl ?_; refine rG (fun _ z => z) ?_) | (refine kO 7 rfl ?_; first | refine rG (fun _ z => ⟨_, checkFigures_sat t p q a b c d e f, z⟩) ?_ | refine rG (fun _ z => ⟨_, stepErr_sat s, z⟩) ?_ | refine rG (fun _ z => ⟨_, wFirst_fs _ (Nat.le_of_ble_eq_true rfl), z⟩) ?_) | refine oN ?_ | refine aS ?_ | refine aR ?_ | refine aC rfl ?_); (try conv => whnf))
  rw [hf]
  ((refine brp (fun h => ?_) (fun h => ?_)) <;> (try conv => whnf))
  · repeat ((first | refine oP rfl ?_ | refine rP rfl (fun _ z => z) ?_ | (refine kO 4 rfl ?_; refine rG (fun _ z => z) ?_) | refine oN ?_ | refine aS ?_ | refine aR ?_ | refine aT ?_); (try conv => whnf))
    rw [if_neg h]; (rfl)
  · have h0 : timeErr t p q a b c d e f s = 0 := by omega
    rw [if_pos h0]
    have hz : figErr t p q a b c d e f = 0 := by unfold timeErr at h0; split at h0 <;> omega
    have hs : 1 ≤ s ∧ s ≤ 1000000 := by
      unfold timeErr at h0; rw [if_neg (by omega)] at h0; split at h0 <;> omega
    obtain ⟨⟨⟨h1, h2, h3⟩, ⟨h4, h5⟩, ⟨h6, h7⟩, h8, h9⟩, k1, k2, k3, k4⟩ := figErr_zero hz
    have m1 := time_mid (x := 5 * (c - b)) (by omega) hs
    have m2 := time_mid (x := 5 * (d - a)) (by omega) hs
    have g := around8_sat (5 * (c - b) * s) 3 (5 * (d - a) * s) 3 (by omega) (by omega) (by omega) (by omega)
    repeat ((first | refine oP rfl ?_ | refine rP rfl (fun _ z => z) ?_ | (refine kO 1 rfl ?_; first | refine rSub rfl rfl rfl (by omega) ?_ | refine rMul rfl rfl rfl (by omega) ?_) | (refine kO 3 rfl ?_; refine rLdb rfl rfl rfl rfl rfl rfl rfl ?_) | (refine kO 4 rfl ?_; refine rG (fun _ z => z) ?_) | (refine kO 7 rfl ?_; refine rG (fun _ z => ⟨_, g, z⟩) ?_) | refine oN ?_ | refine aS ?_ | refine aR ?_ | refine aK ?_ | refine aT ?_); (try conv => whnf))
    (rfl)
theorem tailOf_sat (t p q a b c d e f s : Int) : Sat cx.P cx.gl 47 [F9 t p q a b c d e f, I s] (.tup (if timeErr t p q a b c d e f s = 0 then [F2 (tailLo a b c d e f s) (tailHi a b c d e f s), I 0] else [F2 0 0, I (timeErr t p q a b c d e f s)])) := by
  have hf := fs2 (figErr t p q a b c d e f) (if 1 ≤ s ∧ s ≤ 1000000 then 0 else 2)
  rw [show (if figErr t p q a b c d e f ≠ 0 then figErr t p q a b c d e f else if 1 ≤ s ∧ s ≤ 1000000 then 0 else 2) = timeErr t p q a b c d e f s from rfl] at hf
  refine Sat_of_awp (fn := f47) cx_ok (by kernel_rfl) (by kernel_rfl) rfl (by kernel_rfl) (Nat.le_of_ble_eq_true rfl) ?_
  repeat ((first | refine oP rfl ?_ | refine rP rfl (fun _ z => z) ?_ | (refine kO 1 rfl ?_; refine rG (fun _ z => z) ?_) | (refine kO 3 rfl ?_; refine rG (fun _ z => z) ?_) | (refine kO 7 rfl ?_; first | refine rG (fun _ z => ⟨_, checkFigures_sat t p q a b c d e f, z⟩) ?_ | refine rG (fun _ z => ⟨_, stepErr_sat s, z⟩) ?_ | refine rG (fun _ z => ⟨_, wFirst_fs _ (Nat.le_of_ble_eq_true rfl), z⟩) ?_) | refine oN ?_ | refine aS ?_ | refine aR ?_ | refine aC rfl ?_); (try conv => whnf))
  rw [hf]
  ((refine brp (fun h => ?_) (fun h => ?_)) <;> (try conv => whnf))
  · repeat ((first | refine oP rfl ?_ | refine rP rfl (fun _ z => z) ?_ | (refine kO 4 rfl ?_; refine rG (fun _ z => z) ?_) | refine oN ?_ | refine aS ?_ | refine aR ?_ | refine aT ?_); (try conv => whnf))
    rw [if_neg h]; (rfl)
  · have h0 : timeErr t p q a b c d e f s = 0 := by omega
    rw [if_pos h0]
    have hz : figErr t p q a b c d e f = 0 := by unfold timeErr at h0; split at h0 <;> omega
    have hs : 1 ≤ s ∧ s ≤ 1000000 := by
      unfold timeErr at h0; rw [if_neg (by omega)] at h0; split at h0 <;> omega
    obtain ⟨⟨⟨h1, h2, h3⟩, ⟨h4, h5⟩, ⟨h6, h7⟩, h8, h9⟩, k1, k2, k3, k4⟩ := figErr_zero hz
    have m1 := time_mid (x := 2 * e - 3 * b + c) (by omega) hs
    have m2 := time_mid (x := 2 * f - 3 * a + d) (by omega) hs
    have g := around8_sat ((2 * e - 3 * b + c) * s) 2 ((2 * f - 3 * a + d) * s) 2 (by omega) (by omega) (by omega) (by omega)
    repeat ((first | refine oP rfl ?_ | refine rP rfl (fun _ z => z) ?_ | (refine kO 1 rfl ?_; first | refine rAdd rfl rfl rfl (by omega) ?_ | refine rSub rfl rfl rfl (by omega) ?_ | refine rMul rfl rfl rfl (by omega) ?_) | (refine kO 3 rfl ?_; refine rLdb rfl rfl rfl rfl rfl rfl rfl ?_) | (refine kO 4 rfl ?_; refine rG (fun _ z => z) ?_) | (refine kO 7 rfl ?_; refine rG (fun _ z => ⟨_, g, z⟩) ?_) | refine oN ?_ | refine aS ?_ | refine aR ?_ | refine aK ?_ | refine aT ?_ | refine dI (by kernel_rfl) ?_); (try conv => whnf))
    (rfl)
theorem refFront_sat {t p q a b c d e f s : Int} (hz : figErr t p q a b c d e f = 0) (hs : 1 ≤ s ∧ s ≤ 1000000) : Sat cx.P cx.gl 49 [F9 t p q a b c d e f, I s] (.one (F2 (frontLo a b c d s) (frontHi a b c d s))) := by
  obtain ⟨⟨⟨h1, h2, h3⟩, ⟨h4, h5⟩, ⟨h6, h7⟩, h8, h9⟩, k1, k2, k3, k4⟩ := figErr_zero hz
  have m1 := time_mid (x := 5 * (c - b)) (by omega) hs
  have m2 := time_mid (x := 5 * (d - a)) (by omega) hs
  have g1 := Floor_sat (5 * (c - b) * s) 3 (by omega) (by omega)
  have g2 := Ceil_sat (5 * (d - a) * s) 3 (by omega) (by omega)
  refine Sat_of_awp (fn := f49) cx_ok (by kernel_rfl) (by kernel_rfl) rfl (by kernel_rfl) (Nat.le_of_ble_eq_true rfl) ?_
  repeat ((first | refine oP rfl ?_ | refine rP rfl (fun _ z => z) ?_ | (refine kO 1 rfl ?_; first | refine rSub rfl rfl rfl (by omega) ?_ | refine rMul rfl rfl rfl (by omega) ?_) | (refine kO 3 rfl ?_; refine rLdb rfl rfl rfl rfl rfl rfl rfl ?_) | (refine kO 4 rfl ?_; refine rG (fun _ z => z) ?_) | (refine kO 7 rfl ?_; first | refine rG (fun _ z => ⟨_, g1, z⟩) ?_ | refine rG (fun _ z => ⟨_, g2, z⟩) ?_) | refine oN ?_ | refine aS ?_ | refine aR ?_ | refine aT ?_ | refine dI (by kernel_rfl) ?_); (try conv => whnf))
  (rfl)
theorem refTail_sat {t p q a b c d e f s : Int} (hz : figErr t p q a b c d e f = 0) (hs : 1 ≤ s ∧ s ≤ 1000000) : Sat cx.P cx.gl 50 [F9 t p q a b c d e f, I s] (.one (F2 (tailLo a b c d e f s) (tailHi a b c d e f s))) := by
  obtain ⟨⟨⟨h1, h2, h3⟩, ⟨h4, h5⟩, ⟨h6, h7⟩, h8, h9⟩, k1, k2, k3, k4⟩ := figErr_zero hz
  have m1 := time_mid (x := 2 * e - 3 * b + c) (by omega) hs
  have m2 := time_mid (x := 2 * f - 3 * a + d) (by omega) hs
  have g1 := Floor_sat ((2 * e - 3 * b + c) * s) 2 (by omega) (by omega)
  have g2 := Ceil_sat ((2 * f - 3 * a + d) * s) 2 (by omega) (by omega)
  refine Sat_of_awp (fn := f50) cx_ok (by kernel_rfl) (by kernel_rfl) rfl (by kernel_rfl) (Nat.le_of_ble_eq_true rfl) ?_
  repeat ((first | refine oP rfl ?_ | refine rP rfl (fun _ z => z) ?_ | (refine kO 1 rfl ?_; first | refine rAdd rfl rfl rfl (by omega) ?_ | refine rSub rfl rfl rfl (by omega) ?_ | refine rMul rfl rfl rfl (by omega) ?_) | (refine kO 3 rfl ?_; refine rLdb rfl rfl rfl rfl rfl rfl rfl ?_) | (refine kO 4 rfl ?_; refine rG (fun _ z => z) ?_) | (refine kO 7 rfl ?_; first | refine rG (fun _ z => ⟨_, g1, z⟩) ?_ | refine rG (fun _ z => ⟨_, g2, z⟩) ?_) | refine oN ?_ | refine aS ?_ | refine aR ?_ | refine aT ?_ | refine dI (by kernel_rfl) ?_); (try conv => whnf))
  (rfl)
theorem waveTimes_sat (t p q a b c d e f s : Int) : Sat cx.P cx.gl 9 [F9 t p q a b c d e f, I s] (.one (Bo true)) := by
  have s1 := frontOf_sat t p q a b c d e f s
  have s2 := tailOf_sat t p q a b c d e f s
  have s3 := checkFigures_sat t p q a b c d e f
  have s4 := refFigErr_sat t p q a b c d e f
  by_cases hz : figErr t p q a b c d e f = 0
  · by_cases hs : 1 ≤ s ∧ s ≤ 1000000
    · have r1 := refFront_sat hz hs
      have r2 := refTail_sat hz hs
      have e0 : timeErr t p q a b c d e f s = 0 := by unfold timeErr; rw [if_neg (by omega), if_pos hs]
      rw [if_pos e0] at s1 s2
      rw [hz] at s3 s4
      refine Sat_of_awp (fn := f9) cx_ok (by kernel_rfl) (by kernel_rfl) rfl (by kernel_rfl) (Nat.le_of_ble_eq_true rfl) ?_
      repeat ((first | refine oP rfl ?_ | refine rP rfl (fun _ z => z) ?_ | (refine kO 1 rfl ?_; refine rG (fun _ z => z) ?_) | (refine kO 2 rfl ?_; refine rG (fun _ z => z) ?_) | (refine kO 3 rfl ?_; refine rG (fun _ z => z) ?_) | (refine kO 4 rfl ?_; refine rG (fun _ z => z) ?_) | (refine kO 7 rfl ?_; first | refine rG (fun _ z => ⟨_, awake8_sat, z⟩) ?_ | refine rG (fun _ z => ⟨_, s1, z⟩) ?_ | refine rG (fun _ z => ⟨_, s2, z⟩) ?_ | refine rG (fun _ z => ⟨_, s3, z⟩) ?_ | refine rG (fun _ z => ⟨_, s4, z⟩) ?_ | refine rG (fun _ z => ⟨_, within_p _ _ _, z⟩) ?_ | refine rG (fun _ z => ⟨_, r1, z⟩) ?_ | refine rG (fun _ z => ⟨_, r2, z⟩) ?_) | refine oN ?_ | refine aS ?_ | refine aR ?_ | refine aK ?_ | refine aT ?_ | refine aC rfl ?_ | refine bF ?_ | refine bPf (by omega) ?_ | refine oY rfl rfl rfl ?_ | refine oIt rfl rfl rfl (by omega) ?_ | refine dI (by kernel_rfl) ?_); (try conv => whnf))
      exact res_bo (by simp)
    · have e0 : timeErr t p q a b c d e f s = 2 := by unfold timeErr; rw [if_neg (by omega), if_neg hs]
      rw [if_neg (by omega), e0] at s1 s2
      rw [hz] at s3 s4
      refine Sat_of_awp (fn := f9) cx_ok (by kernel_rfl) (by kernel_rfl) rfl (by kernel_rfl) (Nat.le_of_ble_eq_true rfl) ?_
      repeat ((first | refine oP rfl ?_ | refine rP rfl (fun _ z => z) ?_ | (refine kO 1 rfl ?_; refine rG (fun _ z => z) ?_) | (refine kO 2 rfl ?_; refine rG (fun _ z => z) ?_) | (refine kO 3 rfl ?_; refine rG (fun _ z => z) ?_) | (refine kO 4 rfl ?_; refine rG (fun _ z => z) ?_) | (refine kO 7 rfl ?_; first | refine rG (fun _ z => ⟨_, awake8_sat, z⟩) ?_ | refine rG (fun _ z => ⟨_, s1, z⟩) ?_ | refine rG (fun _ z => ⟨_, s2, z⟩) ?_ | refine rG (fun _ z => ⟨_, s3, z⟩) ?_ | refine rG (fun _ z => ⟨_, s4, z⟩) ?_ | refine rG (fun _ z => ⟨_, within_p _ _ _, z⟩) ?_) | refine oN ?_ | refine aS ?_ | refine aR ?_ | refine aK ?_ | refine aT ?_ | refine aC rfl ?_ | refine bT ?_ | refine bF ?_ | refine bPt (by omega) ?_ | refine oY rfl rfl rfl ?_); (try conv => whnf))
      (rfl)
  · have e0 : timeErr t p q a b c d e f s = figErr t p q a b c d e f := by unfold timeErr; rw [if_pos hz]
    rw [e0, if_neg hz] at s1 s2
    generalize figErr t p q a b c d e f = z0 at *
    refine Sat_of_awp (fn := f9) cx_ok (by kernel_rfl) (by kernel_rfl) rfl (by kernel_rfl) (Nat.le_of_ble_eq_true rfl) ?_
    repeat ((first | refine oP rfl ?_ | refine rP rfl (fun _ z => z) ?_ | (refine kO 1 rfl ?_; refine rG (fun _ z => z) ?_) | (refine kO 2 rfl ?_; refine rG (fun _ z => z) ?_) | (refine kO 3 rfl ?_; refine rG (fun _ z => z) ?_) | (refine kO 4 rfl ?_; refine rG (fun _ z => z) ?_) | (refine kO 7 rfl ?_; first | refine rG (fun _ z => ⟨_, awake8_sat, z⟩) ?_ | refine rG (fun _ z => ⟨_, s1, z⟩) ?_ | refine rG (fun _ z => ⟨_, s2, z⟩) ?_ | refine rG (fun _ z => ⟨_, s3, z⟩) ?_ | refine rG (fun _ z => ⟨_, s4, z⟩) ?_) | refine oN ?_ | refine aS ?_ | refine aR ?_ | refine aK ?_ | refine aT ?_ | refine aC rfl ?_ | refine bF ?_ | refine bPt (by omega) ?_ | refine bPf (by omega) ?_ | refine oY rfl rfl rfl ?_ | refine oZ rfl rfl rfl ?_ | refine oIt rfl rfl rfl (by omega) ?_ | refine oIf rfl rfl rfl (by omega) ?_); (try conv => whnf))
    (rfl)
end Go.Proofs.Tryd
