/- Parts of the proof, joined. -/
import Derived.Test.YtdfdgnggbekhnaaGreatDoorRk
namespace Go.Proofs.Tryz
open Go.Fw Go.IntWalk Go.Plain
set_option maxRecDepth 100000
set_option maxHeartbeats 8000000
theorem age_facts {d t1 t2 : Int} (hd : 0 ≤ d ∧ d ≤ 194) (h1 : 0 ≤ t1 ∧ t1 ≤ 50000) (h2 : 0 ≤ t2 ∧ t2 ≤ 50000) :
    (ageE d t1 = 0 ∧ ageE d t2 = 0 ∧ ageE d (t1 + t2) = 0 ∧ ageE (d + 6) t1 = 0) ∧ (0 ≤ ageV d t1 ∧ ageV d t1 ≤ 104857600000) ∧ (0 ≤ ageV d t2 ∧ ageV d t2 ≤ 104857600000) ∧ ageV d (t1 + t2) = ageV d t1 + ageV d t2 ∧ ageV d t1 ≤ ageV (d + 6) t1 ∧ (80 ≤ d → ageV (d + 6) t1 = 2 * ageV d t1) ∧ (d < 80 → ageV d t1 = 0) := by
  have a1 : aok d t1 := by unfold aok; omega
  have a2 : aok d t2 := by unfold aok; omega
  have a3 : aok d (t1 + t2) := by unfold aok; omega
  have a4 : aok (d + 6) t1 := by unfold aok; omega
  unfold ageE ageV
  rw [if_pos a1, if_pos a2, if_pos a3, if_pos a4, if_pos a1, if_pos a2, if_pos a3, if_pos a4]
  refine ⟨⟨rfl, rfl, rfl, rfl⟩, ?_⟩
  by_cases h : d < 80
  · rw [if_pos h, if_pos h, if_pos h]
    refine ⟨by omega, by omega, by omega, ?_, by omega, by omega⟩
    split
    · omega
    · exact (pow_mul_le (by omega) (by omega)).1
  · rw [if_neg h, if_neg h, if_neg h, if_neg (show ¬ d + 6 < 80 by omega)]
    have e : ((d + 6 - 80) / 6).toNat = ((d - 80) / 6).toNat + 1 := by omega
    have b1 := pow_mul_le (k := ((d - 80) / 6).toNat) (t := t1) (by omega) (by omega)
    have b2 := pow_mul_le (k := ((d - 80) / 6).toNat) (t := t2) (by omega) (by omega)
    have e2 : (2 : Int) ^ (((d - 80) / 6).toNat + 1) * t1 = 2 * (2 ^ ((d - 80) / 6).toNat * t1) := by
      rw [Int.pow_succ, Int.mul_comm (2 ^ _) 2, Int.mul_assoc]
    rw [e, e2, Int.mul_add]
    refine ⟨b1, b2, rfl, by omega, fun _ => rfl, fun h' => absurd h' h⟩
theorem mul_in {b g : Int} (hb : 1 ≤ b ∧ b ≤ 100) (hg : 0 ≤ g ∧ g ≤ 1000000) : 0 ≤ b * g ∧ b * g ≤ 100000000 := by
  refine ⟨Int.mul_nonneg (by omega) hg.1, ?_⟩
  have h1 : b * g ≤ 100 * g := Int.mul_le_mul_of_nonneg_right hb.2 hg.1
  omega
theorem recordAges_sat (h m e y a x0 x1 x2 b : Int) : Sat cx.P cx.gl 5 [G5 h m e y a, A3 x0 x1 x2, I b] (.one (Bo true)) := by
  have h0 := awake_sat
  by_cases hx : (0 ≤ x0 ∧ x0 ≤ 194) ∧ (0 ≤ x1 ∧ x1 ≤ 50000) ∧ 0 ≤ x2 ∧ x2 ≤ 50000
  rotate_left
  · refine Sat_of_awp (fn := f5) cx_ok (by kernel_rfl) (by kernel_rfl) rfl (by kernel_rfl) (Nat.le_of_ble_eq_true rfl) ?_
    repeat' ((first | refine oP rfl ?_ | refine rP rfl (fun _ z => z) ?_ | (refine kO 2 rfl ?_; refine rG (fun _ z => z) ?_) | (refine kO 3 rfl ?_; refine rLdb rfl rfl rfl rfl rfl rfl rfl ?_) | (refine kO 7 rfl ?_; first | refine rG (fun _ z => ⟨_, h0, z⟩) ?_ | refine rG (fun _ z => ⟨_, bWithin_sat _ _ _, z⟩) ?_) | refine oN ?_ | refine aS ?_ | refine aR ?_ | refine aK ?_ | refine aT ?_ | refine aC rfl ?_ | refine bT ?_ | refine bF ?_ | refine bPt (by omega) ?_ | refine oY rfl rfl rfl ?_ | refine oZ rfl rfl rfl ?_ | refine rG (fun _ z => ⟨(by (omega)), z⟩) ?_ | refine opsA_unlessp rfl rfl rfl (fun h => ?_) (fun h => ?_)) <;> (try conv => whnf))
    all_goals fail
  obtain ⟨⟨e1, e2, e3, e4⟩, q1, q2, q3, q4, q5, q6⟩ := age_facts hx.1 hx.2.1 hx.2.2
  have k1 := ageOf_sat x0 x1
  have k2 := ageOf_sat x0 x2
  have k3 := ageOf_sat x0 (x1 + x2)
  have k4 := ageOf_sat (x0 + 6) x1
  rw [e1] at k1
  rw [e2] at k2
  rw [e3] at k3
  rw [e4] at k4
  clear e1 e2 e3 e4
  generalize ageV x0 x1 = v1 at *
  generalize ageV x0 x2 = v2 at *
  generalize ageV x0 (x1 + x2) = v3 at *
  generalize ageV (x0 + 6) x1 = v4 at *
  have k5 := refGasErr_sat h m e y a
  by_cases hb : 1 ≤ b ∧ b ≤ 100
  rotate_left
  · refine Sat_of_awp (fn := f5) cx_ok (by kernel_rfl) (by kernel_rfl) rfl (by kernel_rfl) (Nat.le_of_ble_eq_true rfl) ?_
    repeat' ((first | refine oP rfl ?_ | refine rP rfl (fun _ z => z) ?_ | (refine kO 1 rfl ?_; first | refine rAdd rfl rfl rfl (by omega) ?_ | refine rMul rfl rfl rfl (by omega) ?_ | refine rG (fun _ z => z) ?_) | (refine kO 2 rfl ?_; refine rG (fun _ z => z) ?_) | (refine kO 3 rfl ?_; refine rLdb rfl rfl rfl rfl rfl rfl rfl ?_) | (refine kO 7 rfl ?_; first | refine rG (fun _ z => ⟨_, h0, z⟩) ?_ | refine rG (fun _ z => ⟨_, bWithin_sat _ _ _, z⟩) ?_ | refine rG (fun _ z => ⟨_, k1, z⟩) ?_ | refine rG (fun _ z => ⟨_, k2, z⟩) ?_ | refine rG (fun _ z => ⟨_, k3, z⟩) ?_ | refine rG (fun _ z => ⟨_, k4, z⟩) ?_) | refine oN ?_ | refine aS ?_ | refine aR ?_ | refine aK ?_ | refine aT ?_ | refine aC rfl ?_ | refine bT ?_ | refine bF ?_ | refine bPf (by omega) ?_ | refine oY rfl rfl rfl ?_ | refine oZ rfl rfl rfl ?_ | refine oIt rfl rfl rfl (by omega) ?_ | refine oIf rfl rfl rfl (by omega) ?_ | refine oUt rfl rfl rfl (by omega) ?_ | refine oUf rfl rfl rfl (by omega) ?_ | refine rG (fun _ z => ⟨(by (omega)), z⟩) ?_ | refine opsA_ifp rfl rfl rfl (fun h => ?_) (fun h => ?_)) <;> (try conv => whnf))
    all_goals fail
  by_cases hg : gok h m e y a
  rotate_left
  · rw [gErr_no hg] at k5
    refine Sat_of_awp (fn := f5) cx_ok (by kernel_rfl) (by kernel_rfl) rfl (by kernel_rfl) (Nat.le_of_ble_eq_true rfl) ?_
    repeat' ((first | refine oP rfl ?_ | refine rP rfl (fun _ z => z) ?_ | (refine kO 1 rfl ?_; first | refine rAdd rfl rfl rfl (by omega) ?_ | refine rMul rfl rfl rfl (by omega) ?_ | refine rG (fun _ z => z) ?_) | (refine kO 2 rfl ?_; refine rG (fun _ z => z) ?_) | (refine kO 3 rfl ?_; first | refine rLdb rfl rfl rfl rfl rfl rfl rfl ?_ | refine rG (fun _ z => z) ?_) | (refine kO 7 rfl ?_; first | refine rG (fun _ z => ⟨_, h0, z⟩) ?_ | refine rG (fun _ z => ⟨_, bWithin_sat _ _ _, z⟩) ?_ | refine rG (fun _ z => ⟨_, k1, z⟩) ?_ | refine rG (fun _ z => ⟨_, k2, z⟩) ?_ | refine rG (fun _ z => ⟨_, k3, z⟩) ?_ | refine rG (fun _ z => ⟨_, k4, z⟩) ?_ | refine rG (fun _ z => ⟨_, k5, z⟩) ?_) | refine oN ?_ | refine aS ?_ | refine aR ?_ | refine aK ?_ | refine aT ?_ | refine aC rfl ?_ | refine bT ?_ | refine bF ?_ | refine bPf (by omega) ?_ | refine oY rfl rfl rfl ?_ | refine oZ rfl rfl rfl ?_ | refine oIt rfl rfl rfl (by omega) ?_ | refine oIf rfl rfl rfl (by omega) ?_ | refine oUf rfl rfl rfl (by omega) ?_ | refine rG (fun _ z => ⟨(by (omega)), z⟩) ?_ | refine opsA_ifp rfl rfl rfl (fun h => ?_) (fun h => ?_)) <;> (try conv => whnf))
    all_goals fail
  rw [gErr_ok hg] at k5
  have hg' := hg
  unfold gok at hg'
  have m1 := mul_in hb hg'.1.1
  have m2 := mul_in hb hg'.1.2
  have m3 := mul_in hb hg'.2.1
  have m4 := mul_in hb hg'.2.2.1
  have m5 := mul_in hb hg'.2.2.2
  have k6 := refGasErr_sat (b * h) (b * m) (b * e) (b * y) (b * a)
  by_cases hh : gok (b * h) (b * m) (b * e) (b * y) (b * a)
  rotate_left
  · rw [gErr_no hh] at k6
    refine Sat_of_awp (fn := f5) cx_ok (by kernel_rfl) (by kernel_rfl) rfl (by kernel_rfl) (Nat.le_of_ble_eq_true rfl) ?_
    repeat' ((first | refine oP rfl ?_ | refine rP rfl (fun _ z => z) ?_ | (refine kO 1 rfl ?_; first | refine rAdd rfl rfl rfl (by omega) ?_ | refine rMul rfl rfl rfl (by omega) ?_ | refine rG (fun _ z => z) ?_) | (refine kO 2 rfl ?_; refine rG (fun _ z => z) ?_) | (refine kO 3 rfl ?_; first | refine rLdb rfl rfl rfl rfl rfl rfl rfl ?_ | refine rG (fun _ z => z) ?_) | (refine kO 4 rfl ?_; refine rG (fun _ z => z) ?_) | (refine kO 7 rfl ?_; first | refine rG (fun _ z => ⟨_, h0, z⟩) ?_ | refine rG (fun _ z => ⟨_, bWithin_sat _ _ _, z⟩) ?_ | refine rG (fun _ z => ⟨_, k1, z⟩) ?_ | refine rG (fun _ z => ⟨_, k2, z⟩) ?_ | refine rG (fun _ z => ⟨_, k3, z⟩) ?_ | refine rG (fun _ z => ⟨_, k4, z⟩) ?_ | refine rG (fun _ z => ⟨_, k5, z⟩) ?_ | refine rG (fun _ z => ⟨_, k6, z⟩) ?_) | refine oN ?_ | refine aS ?_ | refine aR ?_ | refine aK ?_ | refine aT ?_ | refine aC rfl ?_ | refine bT ?_ | refine bF ?_ | refine bPf (by omega) ?_ | refine oY rfl rfl rfl ?_ | refine oZ rfl rfl rfl ?_ | refine oIt rfl rfl rfl (by omega) ?_ | refine oIf rfl rfl rfl (by omega) ?_ | refine oUf rfl rfl rfl (by omega) ?_ | refine rG (fun _ z => ⟨(by (omega)), z⟩) ?_ | refine opsA_ifp rfl rfl rfl (fun h => ?_) (fun h => ?_)) <;> (try conv => whnf))
    all_goals fail
  rw [gErr_ok hh] at k6
  have k7 := codesOf_ok h m e y a hg
  have k8 := diagOf_ok h m e y a hg
  have k9 := codesOf_ok _ _ _ _ _ hh
  have k10 := diagOf_ok _ _ _ _ _ hh
  rw [cod1_mul hb.1, cod2_mul hb.1, cod3_mul hb.1] at k9 k10
  rw [byS_mul hb.1] at k10
  generalize agr (byC (cod1 y a) (cod2 h m) (cod3 e y)) (byS m y a) = z1 at *
  generalize byC (cod1 y a) (cod2 h m) (cod3 e y) = z2 at *
  generalize byS m y a = z3 at *
  generalize cod1 y a = z4 at *
  generalize cod2 h m = z5 at *
  generalize cod3 e y = z6 at *
  refine Sat_of_awp (fn := f5) cx_ok (by kernel_rfl) (by kernel_rfl) rfl (by kernel_rfl) (Nat.le_of_ble_eq_true rfl) ?_
  repeat' ((first | refine oP rfl ?_ | refine rP rfl (fun _ z => z) ?_ | (refine kO 1 rfl ?_; first | refine rAdd rfl rfl rfl (by omega) ?_ | refine rMul rfl rfl rfl (by omega) ?_ | refine rG (fun _ z => z) ?_) | (refine kO 2 rfl ?_; refine rG (fun _ z => z) ?_) | (refine kO 3 rfl ?_; first | refine rLdb rfl rfl rfl rfl rfl rfl rfl ?_ | refine rG (fun _ z => z) ?_) | (refine kO 4 rfl ?_; refine rG (fun _ z => z) ?_) | (refine kO 7 rfl ?_; first | refine rG (fun _ z => ⟨_, h0, z⟩) ?_ | refine rG (fun _ z => ⟨_, bWithin_sat _ _ _, z⟩) ?_ | refine rG (fun _ z => ⟨_, k1, z⟩) ?_ | refine rG (fun _ z => ⟨_, k2, z⟩) ?_ | refine rG (fun _ z => ⟨_, k3, z⟩) ?_ | refine rG (fun _ z => ⟨_, k4, z⟩) ?_ | refine rG (fun _ z => ⟨_, k5, z⟩) ?_ | refine rG (fun _ z => ⟨_, k6, z⟩) ?_ | refine rG (fun _ z => ⟨_, k7, z⟩) ?_ | refine rG (fun _ z => ⟨_, k8, z⟩) ?_ | refine rG (fun _ z => ⟨_, k9, z⟩) ?_ | refine rG (fun _ z => ⟨_, k10, z⟩) ?_) | refine oN ?_ | refine aS ?_ | refine aR ?_ | refine aK ?_ | refine aT ?_ | refine aC rfl ?_ | refine bF ?_ | refine bPf (by omega) ?_ | refine oY rfl rfl rfl ?_ | refine oZ rfl rfl rfl ?_ | refine oIt rfl rfl rfl (by omega) ?_ | refine oIf rfl rfl rfl (by omega) ?_ | refine oUf rfl rfl rfl (by omega) ?_ | refine rG (fun _ z => ⟨(by (omega)), z⟩) ?_ | refine opsA_ifp rfl rfl rfl (fun h => ?_) (fun h => ?_)) <;> (try conv => whnf))
  all_goals (simp; done)
end Go.Proofs.Tryz
