/- Parts of the proof, joined. -/
import Derived.Test.YtlbmcaljkjbjpaaWd
import Derived.Test.YtlbmcaljkjbjpaaMa
namespace Go.Proofs.Try
open Go.Fw Go.IntWalk Go.Plain
set_option maxRecDepth 100000
set_option maxHeartbeats 16000000
theorem zr_rev (n : Int) : (zr n).reverse = zr n := List.reverse_replicate
theorem zr_zero {n : Int} (h : n ≤ 0) : zr n = [] := by show List.replicate n.toNat (0 : Int) = []; rw [show n.toNat = 0 by omega]; rfl
theorem shI_rev (a : List Int) (n : Int) : (shI a n).reverse = shI a.reverse (-n) := by
  unfold shI
  by_cases h : 0 ≤ n
  · rw [if_pos h, List.reverse_append, zr_rev]
    by_cases h2 : 0 ≤ -n
    · rw [if_pos h2, zr_zero (n := n) (by omega), zr_zero (n := -n) (by omega)]; simp
    · rw [if_neg h2, Int.neg_neg]
  · rw [if_neg h, if_pos (by omega), List.reverse_append, zr_rev]
theorem shO_rev (b : List Int) (n : Int) : (shO b n).reverse = shO b.reverse (-n) := by
  unfold shO
  by_cases h : 0 ≤ n
  · rw [if_pos h, List.reverse_append, zr_rev]
    by_cases h2 : 0 ≤ -n
    · rw [if_pos h2, zr_zero (n := n) (by omega), zr_zero (n := -n) (by omega)]; simp
    · rw [if_neg h2, Int.neg_neg]
  · rw [if_neg h, if_pos (by omega), List.reverse_append, zr_rev]
theorem zr_sum (n : Int) : (zr n).sum = 0 := by
  show (List.replicate n.toNat (0 : Int)).sum = 0
  generalize n.toNat = k
  induction k with
  | zero => rfl
  | succ k ih => rw [List.replicate_succ, List.sum_cons, ih]; rfl
theorem zr_mem {n x : Int} (h : x ∈ zr n) : x = 0 := (List.mem_replicate.1 h).2
theorem VW.shift {a b : List Int} {n : Int} (h : VW a b) (h0 : shErr0 a n = 0) : VW (shI a n) (shO b n) := by
  have hn : -3 ≤ n ∧ n ≤ 3 := by
    unfold shErr0 at h0
    split at h0
    · assumption
    · omega
  have hl : (a.length : Int) + absI n ≤ 15 := by
    unfold shErr0 at h0
    rw [if_pos hn] at h0
    split at h0 <;> omega
  have k1 := h.len
  have k2 := h.pos
  have s := h.sum
  unfold shI shO
  by_cases hp : 0 ≤ n
  · rw [if_pos hp, if_pos hp]
    have : absI n = n := by unfold absI; rw [if_neg (by omega)]
    refine ⟨by simp; omega, by simp; omega, by simp; omega, fun x hx => ?_, fun x hx => ?_, by rw [List.sum_append, List.sum_append, zr_sum]; omega⟩
    · rcases List.mem_append.1 hx with hx | hx
      · exact h.ra x hx
      · have := zr_mem hx; omega
    · rcases List.mem_append.1 hx with hx | hx
      · have := zr_mem hx; omega
      · exact h.rb x hx
  · rw [if_neg hp, if_neg hp]
    have : absI n = -n := by unfold absI; rw [if_pos (by omega)]
    refine ⟨by simp; omega, by simp; omega, by simp; omega, fun x hx => ?_, fun x hx => ?_, by rw [List.sum_append, List.sum_append, zr_sum]; omega⟩
    · rcases List.mem_append.1 hx with hx | hx
      · have := zr_mem hx; omega
      · exact h.ra x hx
    · rcases List.mem_append.1 hx with hx | hx
      · exact h.rb x hx
      · have := zr_mem hx; omega
theorem shErr0_neg {a : List Int} {n : Int} (h : shErr0 a n = 0) : shErr0 a.reverse (-n) = 0 := by
  have hn : -3 ≤ n ∧ n ≤ 3 := by
    unfold shErr0 at h
    split at h
    · assumption
    · omega
  unfold shErr0 at *
  rw [if_pos hn] at h
  rw [if_pos (by omega), List.length_reverse]
  have : absI (-n) = absI n := by unfold absI; (repeat' split) <;> omega
  rw [this]; exact h
abbrev bW (a b : List Int) : Option Blk := some (.box 24 [.st (.ints a), .st (.ints b)])
abbrev bF2 (a b : List Int) : Option Blk := some (.box 42 [.st (.ints a), .st (.ints b)])
theorem forceMirrored_sat (a b : List Int) (n : Int) (ha : a.length ≤ maxLen) (hb : b.length ≤ maxLen) (hn : inI n) : Sat cx.P cx.gl 4 [W2 a b, I n] (.one (Bo true)) := by
  have hM : 1000 ≤ maxLen := by decide
  by_cases hf : a.length ≤ 17 ∧ b.length ≤ 17
  · have s4 := windowErr_sat a b ha hb
    by_cases hw : windowErr a b = 0
    · have hv := windowErr_zero.1 hw
      have hl := hv.len
      have hle := hv.le
      have hpos := hv.pos
      have hr := hv.mirror
      have hwr := windowErr_zero.2 hr
      have c := copy_sat a b (by omega) (by omega)
      have cr := copy_sat a.reverse b.reverse (by simp; omega) (by simp; omega)
      have s2 := mirrored_sat a b ha hb
      have s3 := mirrored_sat a.reverse b.reverse (by simp; omega) (by simp; omega)
      have s5 := windowErr_sat a.reverse b.reverse (by simp; omega) (by simp; omega)
      have x1 := axialOf_sat a b ha hb
      have x2 := axialOf_sat a.reverse b.reverse (by simp; omega) (by simp; omega)
      have x3 := radialOf_sat a b ha hb
      have x4 := radialOf_sat a.reverse b.reverse (by simp; omega) (by simp; omega)
      have m1 := same_refl a b (by omega) (by omega)
      have m3 := shiftErr_sat a b n hn (by omega)
      have F0 := mir_in hv
      have F1 := mir_out hv
      rw [hw] at s4
      rw [hwr] at s5
      rw [if_pos hw] at s2 x1 x3
      rw [if_pos hwr] at s3 x2 x4
      rw [List.reverse_reverse, List.reverse_reverse] at s3
      rw [List.length_reverse] at x2 x4
      have lr : a.reverse.length = a.length := List.length_reverse
      generalize axL a a b a.length = A0 at *
      generalize axL b a b a.length = A1 at *
      generalize axL a.reverse a.reverse b.reverse a.length = B0 at *
      generalize axL b.reverse a.reverse b.reverse a.length = B1 at *
      generalize rdIL a b a.length = X0 at *
      generalize rdOL a b a.length = X1 at *
      generalize rdIL a.reverse b.reverse a.length = Y0 at *
      generalize rdOL a.reverse b.reverse a.length = Y1 at *
      obtain ⟨p1, p2, p3, p4, p5, p6, p7⟩ := F0
      obtain ⟨q1, q2, q3, q4, q5, q6, q7⟩ := F1
      refine Sat_of_awp (fn := f4) cx_ok (by kernel_rfl) (by kernel_rfl) rfl (by kernel_rfl) (Nat.le_of_ble_eq_true rfl) ?_
      repeat ((first | refine oP rfl ?_ | refine rP rfl (fun _ z => z) ?_ | (refine kO 1 rfl ?_; refine rG (fun _ z => z) ?_) | (refine kO 2 rfl ?_; refine rG (fun _ z => z) ?_) | (refine kO 3 rfl ?_; first | refine rLdb rfl rfl rfl rfl rfl rfl rfl ?_ | refine rG (fun _ z => z) ?_) | (refine kO 4 rfl ?_; refine rG (fun _ z => z) ?_) | (refine kO 7 rfl ?_; first | refine rG (fun _ z => ⟨_, awake_sat, z⟩) ?_ | refine rG (fun _ z => ⟨_, few_sat _ _, z⟩) ?_ | refine rG (fun _ z => ⟨_, s4, z⟩) ?_ | refine rG (fun _ z => ⟨_, c, z⟩) ?_ | refine rG (fun _ z => ⟨_, s2, z⟩) ?_ | refine rG (fun _ z => ⟨_, s5, z⟩) ?_ | refine rG (fun _ z => ⟨_, cr, z⟩) ?_ | refine rG (fun _ z => ⟨_, s3, z⟩) ?_ | refine rG (fun _ z => ⟨_, x1, z⟩) ?_ | refine rG (fun _ z => ⟨_, x2, z⟩) ?_ | refine rG (fun _ z => ⟨_, x3, z⟩) ?_ | refine rG (fun _ z => ⟨_, x4, z⟩) ?_ | refine rG (fun _ z => ⟨_, m1, z⟩) ?_) | (refine kO 6 rfl ?_; refine rLen rfl rfl rfl rfl rfl rfl ?_) | refine oN ?_ | refine aS ?_ | refine aR ?_ | refine aK ?_ | refine aB ?_ | refine aC rfl ?_ | refine bF ?_ | refine bPf (by omega) ?_ | refine aL ?_ | refine oY rfl rfl rfl ?_ | refine oUf rfl rfl rfl (by omega) ?_); (try conv => whnf))
      refine loop_round ?_
      repeat ((first | refine oP rfl ?_ | refine rP rfl (fun _ z => z) ?_ | (refine kO 1 rfl ?_; refine rG (fun _ z => z) ?_) | (refine kO 3 rfl ?_; refine rLdb rfl rfl rfl rfl rfl rfl rfl ?_) | (refine kO 6 rfl ?_; refine rLen rfl rfl rfl rfl rfl rfl ?_) | refine oN ?_ | refine aS ?_ | refine aR ?_ | refine aK ?_ | refine aB ?_ | refine aC rfl ?_ | refine bT ?_ | refine bPf (by omega) ?_ | refine aL ?_ | refine oY rfl rfl rfl ?_ | refine oUf rfl rfl rfl (by omega) ?_ | refine rG (fun _ z => ⟨(by (omega)), z⟩) ?_); (try conv => whnf))
      refine loop_ind (ι := Nat) (fun j => j ≤ a.length) (fun j => a.length - j) (fun j => ⟨[(1, vI n), (2, pP 0), (5, pP 1), (9, pP 2), (11, pP 3), (13, pP 4), (15, pP 5), (17, vI a.length), (18, vI 0), (19, vI j)], [(0, bW a b), (1, bW a.reverse b.reverse), (2, bF2 A0 A1), (3, bF2 B0 B1), (4, bF2 X0 X1), (5, bF2 Y0 Y1)], 6⟩) 0 (canon_auto (by kernel_rfl)) (Nat.zero_le _) ?_
      intro j hj
      by_cases hlt : j < a.length
      · have k1 := p5 j hlt
        have k2 := p6 j hlt
        have k3 := p7 j hlt
        repeat ((first | refine oP rfl ?_ | refine rP rfl (fun _ z => z) ?_ | (refine kO 1 rfl ?_; first | refine rAdd rfl rfl rfl (by omega) ?_ | refine rSub rfl rfl rfl (by omega) ?_ | refine rG (fun _ z => z) ?_) | (refine kO 2 rfl ?_; refine rNeg rfl rfl (by omega) ?_) | (refine kO 3 rfl ?_; first | refine rLdr rfl rfl rfl rfl rfl ?_ | refine rLdb rfl rfl rfl rfl rfl rfl rfl ?_) | (refine kO 5 rfl ?_; first | refine rIdN rfl rfl rfl rfl rfl rfl rfl (by omega) ?_ | refine rIdx rfl rfl rfl rfl rfl rfl rfl (by first | omega | (simp; omega)) ?_) | refine oN ?_ | refine aS ?_ | refine aR ?_ | refine aK ?_ | refine aB ?_ | refine aC rfl ?_ | refine bPt (by omega) ?_ | refine bPf (by omega) ?_ | refine oY rfl rfl rfl ?_ | refine oUf rfl rfl rfl (by omega) ?_ | refine dI (by kernel_rfl) ?_ | refine rG (fun _ z => ⟨(by (omega)), z⟩) ?_); (try conv => whnf))
        exact ⟨j + 1, hlt, by omega, canon_auto (by kernel_rfl)⟩
      · obtain rfl : j = a.length := by omega
        repeat ((first | refine oP rfl ?_ | refine rP rfl (fun _ z => z) ?_ | (refine kO 1 rfl ?_; first | refine rAdd rfl rfl rfl (by omega) ?_ | refine rG (fun _ z => z) ?_) | refine oN ?_ | refine aS ?_ | refine aR ?_ | refine aX ?_ | refine aC rfl ?_ | refine bPf (by omega) ?_); (try conv => whnf))
        refine loop_round ?_
        repeat ((first | refine oP rfl ?_ | refine rP rfl (fun _ z => z) ?_ | (refine kO 1 rfl ?_; refine rG (fun _ z => z) ?_) | (refine kO 3 rfl ?_; refine rLdb rfl rfl rfl rfl rfl rfl rfl ?_) | (refine kO 6 rfl ?_; refine rLen rfl rfl rfl rfl rfl rfl ?_) | refine oN ?_ | refine aS ?_ | refine aR ?_ | refine aK ?_ | refine aB ?_ | refine aC rfl ?_ | refine bT ?_ | refine bPf (by omega) ?_ | refine aL ?_ | refine oY rfl rfl rfl ?_ | refine oUf rfl rfl rfl (by omega) ?_ | refine rG (fun _ z => ⟨(by (omega)), z⟩) ?_); (try conv => whnf))
        refine loop_ind (ι := Nat) (fun j => j ≤ a.length) (fun j => a.length - j) (fun j => ⟨[(1, vI n), (2, pP 0), (5, pP 1), (9, pP 2), (11, pP 3), (13, pP 4), (15, pP 5), (17, vI a.length), (18, vI 1), (19, vI j)], [(0, bW a b), (1, bW a.reverse b.reverse), (2, bF2 A0 A1), (3, bF2 B0 B1), (4, bF2 X0 X1), (5, bF2 Y0 Y1)], 6⟩) 0 (canon_auto (by kernel_rfl)) (Nat.zero_le _) ?_
        intro j hj
        by_cases hlt : j < a.length
        · have k1 := q5 j hlt
          have k2 := q6 j hlt
          have k3 := q7 j hlt
          repeat ((first | refine oP rfl ?_ | refine rP rfl (fun _ z => z) ?_ | (refine kO 1 rfl ?_; first | refine rAdd rfl rfl rfl (by omega) ?_ | refine rSub rfl rfl rfl (by omega) ?_ | refine rG (fun _ z => z) ?_) | (refine kO 2 rfl ?_; refine rNeg rfl rfl (by omega) ?_) | (refine kO 3 rfl ?_; first | refine rLdr rfl rfl rfl rfl rfl ?_ | refine rLdb rfl rfl rfl rfl rfl rfl rfl ?_) | (refine kO 5 rfl ?_; first | refine rIdN rfl rfl rfl rfl rfl rfl rfl (by omega) ?_ | refine rIdx rfl rfl rfl rfl rfl rfl rfl (by omega) ?_) | refine oN ?_ | refine aS ?_ | refine aR ?_ | refine aK ?_ | refine aB ?_ | refine aC rfl ?_ | refine bPt (by omega) ?_ | refine bPf (by omega) ?_ | refine oY rfl rfl rfl ?_ | refine oUf rfl rfl rfl (by omega) ?_ | refine dI (by kernel_rfl) ?_ | refine rG (fun _ z => ⟨(by (omega)), z⟩) ?_); (try conv => whnf))
          exact ⟨j + 1, hlt, by omega, canon_auto (by kernel_rfl)⟩
        · obtain rfl : j = a.length := by omega
          clear p1 p2 p3 p4 p5 p6 p7 q1 q2 q3 q4 q5 q6 q7
          by_cases h1 : shErr0 a n = 0
          · have hsv := VW.shift hv h1
            have hsw := windowErr_zero.2 hsv
            have h2 := shErr0_neg h1
            have hn3 : -3 ≤ n ∧ n ≤ 3 := by
              unfold shErr0 at h1
              split at h1
              · assumption
              · omega
            have t1 := shiftedP_sat a b n ha hb hn
            have t2 := shiftedP_sat a.reverse b.reverse (-n) (by simp; omega) (by simp; omega) ⟨by omega, by omega⟩
            have e1 : shErr a b n = 0 := by unfold shErr; rw [if_neg (by omega)]; exact h1
            have e2 : shErr a.reverse b.reverse (-n) = 0 := by unfold shErr; rw [if_neg (by omega)]; exact h2
            rw [if_pos e1] at t1
            rw [if_pos e2, ← shI_rev, ← shO_rev] at t2
            have l1 := hsv.le
            have l2 := hsv.len
            have t3 := windowErr_sat (shI a n) (shO b n) (by omega) (by omega)
            have t4 := mirrored_sat (shI a n) (shO b n) (by omega) (by omega)
            rw [hsw] at t3
            rw [if_pos hsw] at t4
            have t5 := same_refl (shI a n).reverse (shO b n).reverse (by simp; omega) (by simp; omega)
            rw [h1] at m3
            repeat ((first | refine oP rfl ?_ | refine rP rfl (fun _ z => z) ?_ | (refine kO 1 rfl ?_; first | refine rAdd rfl rfl rfl (by omega) ?_ | refine rG (fun _ z => z) ?_) | refine oN ?_ | refine aS ?_ | refine aR ?_ | refine aX ?_ | refine aC rfl ?_ | refine bPf (by omega) ?_); (try conv => whnf))
            refine loop_round ?_
            repeat ((first | refine oP rfl ?_ | refine rP rfl (fun _ z => z) ?_ | (refine kO 1 rfl ?_; refine rG (fun _ z => z) ?_) | (refine kO 2 rfl ?_; refine rNeg rfl rfl (by omega) ?_) | (refine kO 3 rfl ?_; refine rG (fun _ z => z) ?_) | (refine kO 4 rfl ?_; refine rG (fun _ z => z) ?_) | (refine kO 7 rfl ?_; first | refine rG (fun _ z => ⟨_, m3, z⟩) ?_ | refine rG (fun _ z => ⟨_, c, z⟩) ?_ | refine rG (fun _ z => ⟨_, t1, z⟩) ?_ | refine rG (fun _ z => ⟨_, t2, z⟩) ?_ | refine rG (fun _ z => ⟨_, t3, z⟩) ?_ | refine rG (fun _ z => ⟨_, t4, z⟩) ?_ | refine rG (fun _ z => ⟨_, t5, z⟩) ?_) | refine oN ?_ | refine aS ?_ | refine aR ?_ | refine aK ?_ | refine aX ?_ | refine aT ?_ | refine aC rfl ?_ | refine bF ?_ | refine oY rfl rfl rfl ?_); (try conv => whnf))
            (rfl)
          · generalize shErr0 a n = z at *
            repeat ((first | refine oP rfl ?_ | refine rP rfl (fun _ z => z) ?_ | (refine kO 1 rfl ?_; first | refine rAdd rfl rfl rfl (by omega) ?_ | refine rG (fun _ z => z) ?_) | refine oN ?_ | refine aS ?_ | refine aR ?_ | refine aX ?_ | refine aC rfl ?_ | refine bPf (by omega) ?_); (try conv => whnf))
            refine loop_round ?_
            repeat ((first | refine oP rfl ?_ | refine rP rfl (fun _ z => z) ?_ | (refine kO 1 rfl ?_; refine rG (fun _ z => z) ?_) | (refine kO 3 rfl ?_; refine rG (fun _ z => z) ?_) | (refine kO 7 rfl ?_; refine rG (fun _ z => ⟨_, m3, z⟩) ?_) | refine oN ?_ | refine aS ?_ | refine aR ?_ | refine aX ?_ | refine aT ?_ | refine aC rfl ?_ | refine bF ?_ | refine bPt (by omega) ?_); (try conv => whnf))
            (done)
    · generalize windowErr a b = z at *
      refine Sat_of_awp (fn := f4) cx_ok (by kernel_rfl) (by kernel_rfl) rfl (by kernel_rfl) (Nat.le_of_ble_eq_true rfl) ?_
      repeat ((first | refine oP rfl ?_ | refine rP rfl (fun _ z => z) ?_ | (refine kO 1 rfl ?_; refine rG (fun _ z => z) ?_) | (refine kO 2 rfl ?_; refine rG (fun _ z => z) ?_) | (refine kO 3 rfl ?_; refine rG (fun _ z => z) ?_) | (refine kO 7 rfl ?_; first | refine rG (fun _ z => ⟨_, awake_sat, z⟩) ?_ | refine rG (fun _ z => ⟨_, few_sat _ _, z⟩) ?_ | refine rG (fun _ z => ⟨_, s4, z⟩) ?_) | refine oN ?_ | refine aS ?_ | refine aR ?_ | refine aK ?_ | refine aT ?_ | refine aC rfl ?_ | refine bF ?_ | refine bPt (by omega) ?_ | refine oY rfl rfl rfl ?_ | refine oUf rfl rfl rfl (by omega) ?_); (try conv => whnf))
      (done)
  · refine Sat_of_awp (fn := f4) cx_ok (by kernel_rfl) (by kernel_rfl) rfl (by kernel_rfl) (Nat.le_of_ble_eq_true rfl) ?_
    repeat ((first | refine oP rfl ?_ | refine rP rfl (fun _ z => z) ?_ | (refine kO 2 rfl ?_; refine rG (fun _ z => z) ?_) | (refine kO 3 rfl ?_; refine rG (fun _ z => z) ?_) | (refine kO 7 rfl ?_; first | refine rG (fun _ z => ⟨_, awake_sat, z⟩) ?_ | refine rG (fun _ z => ⟨_, few_sat _ _, z⟩) ?_) | refine oN ?_ | refine aS ?_ | refine aR ?_ | refine aK ?_ | refine aT ?_ | refine aC rfl ?_ | refine bT ?_ | refine bF ?_ | refine oZ rfl rfl rfl ?_ | refine oUt rfl rfl rfl (by omega) ?_); (try conv => whnf))
    (done)
end Go.Proofs.Try
