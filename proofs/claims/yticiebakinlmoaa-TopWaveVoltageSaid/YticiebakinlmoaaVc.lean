/- Parts of the proof, joined. -/
import Derived.Test.YticiebakinlmoaaVs
import Derived.Test.YticiebakinlmoaaVt
namespace Go.Proofs.Try
open Go.Fw Go.IntWalk Go.Plain
set_option maxRecDepth 100000
set_option maxHeartbeats 8000000
/-! ### Voltages and answers -/
abbrev valOK (a b : Int) : Prop := (-1000000000000000 ≤ a ∧ a ≤ 1000000000000000) ∧ -1000000000000000 ≤ b ∧ b ≤ 1000000000000000
def valE (a b : Int) : Int := if valOK a b then (if a ≤ b then 0 else 9) else 2
theorem valueErr_sat (a b : Int) : Sat cx.P cx.gl 37 [F2 a b] (.one (I (valE a b))) := by
  have g := wFails_sat [a, b] 1000000000000000 (by omega) (Nat.le_of_ble_eq_true rfl)
  have ea : AllIn [a, b] (-1000000000000000) 1000000000000000 ↔ valOK a b := by simp [AllIn]
  have f := fs2 (if valOK a b then 0 else 2) (if a ≤ b then 0 else 9)
  have e : fs [if valOK a b then 0 else 2, if a ≤ b then 0 else 9] = valE a b := by
    rw [f]; unfold valE
    (repeat' split) <;> omega
  simp only [ea] at g
  rw [← e]
  refine Sat_of_awp (fn := f37) cx_ok (by kernel_rfl) (by kernel_rfl) rfl (by kernel_rfl) (Nat.le_of_ble_eq_true rfl) ?_
  repeat ((first | refine oP rfl ?_ | refine rP rfl (fun _ z => z) ?_ | (refine kO 1 rfl ?_; refine rG (fun _ z => z) ?_) | (refine kO 3 rfl ?_; refine rLdb rfl rfl rfl rfl rfl rfl rfl ?_) | (refine kO 7 rfl ?_; first | refine rG (fun _ z => ⟨_, g, z⟩) ?_ | refine rG (fun _ z => ⟨_, wUnless_p _, z⟩) ?_ | refine rG (fun _ z => ⟨_, wFirst_fs _ (Nat.le_of_ble_eq_true rfl), z⟩) ?_) | refine oN ?_ | refine aS ?_ | refine aR ?_ | refine aT ?_ | refine dI (by kernel_rfl) ?_); (try conv => whnf))
  (rfl)
def ansErr (a b c d : Int) : Int := if valE a b ≠ 0 then valE a b else valE c d
def ansV (a b c d : Int) : Int := if c ≤ a ∧ b ≤ d then 2 else if b < c ∨ a > d then 0 else 1
theorem answerFor_sat (a b c d : Int) : Sat cx.P cx.gl 17 [F2 a b, F2 c d] (.tup (if ansErr a b c d = 0 then [I (ansV a b c d), I 0] else [I 0, I (ansErr a b c d)])) := by
  have f := fs2 (valE a b) (valE c d)
  rw [show (if valE a b ≠ 0 then valE a b else valE c d) = ansErr a b c d from rfl] at f
  refine Sat_of_awp (fn := f17) cx_ok (by kernel_rfl) (by kernel_rfl) rfl (by kernel_rfl) (Nat.le_of_ble_eq_true rfl) ?_
  repeat ((first | refine oP rfl ?_ | refine rP rfl (fun _ z => z) ?_ | (refine kO 1 rfl ?_; refine rG (fun _ z => z) ?_) | (refine kO 3 rfl ?_; refine rG (fun _ z => z) ?_) | (refine kO 7 rfl ?_; first | refine rG (fun _ z => ⟨_, valueErr_sat _ _, z⟩) ?_ | refine rG (fun _ z => ⟨_, wFirst_fs _ (Nat.le_of_ble_eq_true rfl), z⟩) ?_) | refine oN ?_ | refine aS ?_ | refine aR ?_ | refine aC rfl ?_ | refine dI (by kernel_rfl) ?_); (try conv => whnf))
  rw [f]
  ((refine brp (fun h => ?_) (fun h => ?_)) <;> (try conv => whnf))
  · repeat ((first | refine oP rfl ?_ | refine rP rfl (fun _ z => z) ?_ | refine oN ?_ | refine aS ?_ | refine aR ?_ | refine aT ?_); (try conv => whnf))
    rw [if_neg h]; (rfl)
  · rw [if_pos (show ansErr a b c d = 0 by omega)]
    unfold ansV
    by_cases h1 : c ≤ a ∧ b ≤ d
    · rw [if_pos h1]
      repeat ((first | refine oP rfl ?_ | refine rP rfl (fun _ z => z) ?_ | (refine kO 1 rfl ?_; refine rG (fun _ z => z) ?_) | (refine kO 3 rfl ?_; refine rLdb rfl rfl rfl rfl rfl rfl rfl ?_) | refine oN ?_ | refine aS ?_ | refine aR ?_ | refine aK ?_ | refine aB ?_ | refine aT ?_ | refine aC rfl ?_ | refine bPt (by omega) ?_ | refine oY rfl rfl rfl ?_ | refine oIt rfl rfl rfl (by omega) ?_); (try conv => whnf))
      (done)
    · rw [if_neg h1]
      by_cases h2 : b < c ∨ a > d
      · rw [if_pos h2]
        repeat' ((first | refine oP rfl ?_ | refine rP rfl (fun _ z => z) ?_ | (refine kO 1 rfl ?_; refine rG (fun _ z => z) ?_) | (refine kO 3 rfl ?_; refine rLdb rfl rfl rfl rfl rfl rfl rfl ?_) | refine oN ?_ | refine aS ?_ | refine aR ?_ | refine aK ?_ | refine aB ?_ | refine aT ?_ | refine aC rfl ?_ | refine bT ?_ | refine bF ?_ | refine bPt (by omega) ?_ | refine bPf (by omega) ?_ | refine oY rfl rfl rfl ?_ | refine oZ rfl rfl rfl ?_ | refine opsA_ifp rfl rfl rfl (fun h => ?_) (fun h => ?_) | refine opsA_unlessp rfl rfl rfl (fun h => ?_) (fun h => ?_)) <;> (try conv => whnf))
        all_goals fail
      · rw [if_neg h2]
        repeat' ((first | refine oP rfl ?_ | refine rP rfl (fun _ z => z) ?_ | (refine kO 1 rfl ?_; refine rG (fun _ z => z) ?_) | (refine kO 3 rfl ?_; refine rLdb rfl rfl rfl rfl rfl rfl rfl ?_) | refine oN ?_ | refine aS ?_ | refine aR ?_ | refine aK ?_ | refine aB ?_ | refine aT ?_ | refine aC rfl ?_ | refine bF ?_ | refine bPf (by omega) ?_ | refine oY rfl rfl rfl ?_ | refine oZ rfl rfl rfl ?_ | refine oUf rfl rfl rfl (by omega) ?_ | refine opsA_ifp rfl rfl rfl (fun h => ?_) (fun h => ?_)) <;> (try conv => whnf))
        all_goals fail
def volLo (p : Int) (S : Sp) : Int := p * S.1 / S.2.1
def volHi (p : Int) (S : Sp) : Int := -(-(p * S.2.2.1) / S.2.2.2)
def volErr (e : Int) (q : Sp) (ch : List Sp) (g : Int) : Int := if scErr e q ch ≠ 0 then scErr e q ch else g
theorem scErr_zero {e : Int} {q : Sp} {ch : List Sp} (h : scErr e q ch = 0) : rulesErr e q ch = 0 ∧ scSmall (scOf ch) ∧ scB 1000000000 (scOf ch) := by
  unfold scErr at h
  split at h
  · rename_i h1; exact absurd h h1
  · rename_i h1
    split at h
    · rename_i h2
      have h0 : rulesErr e q ch = 0 := by omega
      obtain ⟨_, _, h4, hf⟩ := rulesErr_zero h0
      have hS : scB 1000000000000 (scOf ch) := scT_B4 hf h4 (Nat.le_refl _)
      exact ⟨h0, h2, by omega⟩
    · omega
theorem voltageOf_sat (e : Int) (q : Sp) (ch : List Sp) (hq : SpI q) (hch : ∀ s ∈ ch, SpI s) (hl : ch.length ≤ 4294967296) (t p r a b c d i j : Int) : Sat cx.P cx.gl 10 [Ru e q ch, F9 t p r a b c d i j] (.tup (if volErr e q ch (figErr t p r a b c d i j) = 0 then [F2 (volLo p (scOf ch)) (volHi r (scOf ch)), I 0] else [F2 0 0, I (volErr e q ch (figErr t p r a b c d i j))])) := by
  have s1 := scaleOf_sat e q ch hq hch hl
  have s2 := checkFigures_sat t p r a b c d i j
  by_cases h1 : scErr e q ch = 0
  · have he : volErr e q ch (figErr t p r a b c d i j) = figErr t p r a b c d i j := by unfold volErr; rw [if_neg (by omega)]
    rw [he]
    rw [if_pos h1] at s1
    obtain ⟨_, _, hS⟩ := scErr_zero h1
    generalize scOf ch = S at *
    by_cases h2 : figErr t p r a b c d i j = 0
    · obtain ⟨⟨⟨k1, k2, k3⟩, _⟩, _⟩ := figErr_zero h2
      have m1 := mulP (A := 4196) (B := 1000000000) k2 hS.1
      have m2 := mulP (A := 4196) (B := 1000000000) k3 hS.2.2.1
      have g := around8_sat (p * S.1) S.2.1 (r * S.2.2.1) S.2.2.2 (by omega) (by omega) (by omega) (by omega)
      rw [if_pos h2]
      rw [h2] at s2
      refine Sat_of_awp (fn := f10) cx_ok (by kernel_rfl) (by kernel_rfl) rfl (by kernel_rfl) (Nat.le_of_ble_eq_true rfl) ?_
      repeat ((first | refine oP rfl ?_ | refine rP rfl (fun _ z => z) ?_ | (refine kO 1 rfl ?_; first | refine rMul rfl rfl rfl (by omega) ?_ | refine rG (fun _ z => z) ?_) | (refine kO 3 rfl ?_; first | refine rLdb rfl rfl rfl rfl rfl rfl rfl ?_ | refine rG (fun _ z => z) ?_) | (refine kO 4 rfl ?_; refine rG (fun _ z => z) ?_) | (refine kO 7 rfl ?_; first | refine rG (fun _ z => ⟨_, s1, z⟩) ?_ | refine rG (fun _ z => ⟨_, s2, z⟩) ?_ | refine rG (fun _ z => ⟨_, wFirst_z2, z⟩) ?_ | refine rG (fun _ z => ⟨_, g, z⟩) ?_) | refine oN ?_ | refine aS ?_ | refine aR ?_ | refine aK ?_ | refine aT ?_ | refine aC rfl ?_ | refine bF ?_); (try conv => whnf))
      (rfl)
    · rw [if_neg h2]
      generalize figErr t p r a b c d i j = z at *
      refine Sat_of_awp (fn := f10) cx_ok (by kernel_rfl) (by kernel_rfl) rfl (by kernel_rfl) (Nat.le_of_ble_eq_true rfl) ?_
      repeat ((first | refine oP rfl ?_ | refine rP rfl (fun _ z => z) ?_ | (refine kO 1 rfl ?_; refine rG (fun _ z => z) ?_) | (refine kO 3 rfl ?_; refine rG (fun _ z => z) ?_) | (refine kO 4 rfl ?_; refine rG (fun _ z => z) ?_) | (refine kO 7 rfl ?_; first | refine rG (fun _ z => ⟨_, s1, z⟩) ?_ | refine rG (fun _ z => ⟨_, s2, z⟩) ?_ | refine rG (fun _ z => ⟨_, wFirst_z2, z⟩) ?_) | refine oN ?_ | refine aS ?_ | refine aR ?_ | refine aT ?_ | refine aC rfl ?_ | refine bPt (by omega) ?_); (try conv => whnf))
      (rfl)
  · have he : volErr e q ch (figErr t p r a b c d i j) = scErr e q ch := by unfold volErr; rw [if_pos h1]
    rw [he, if_neg h1]
    rw [if_neg h1] at s1
    have f := wFirst_n2 (x := scErr e q ch) (y := figErr t p r a b c d i j) h1
    generalize scErr e q ch = z at *
    refine Sat_of_awp (fn := f10) cx_ok (by kernel_rfl) (by kernel_rfl) rfl (by kernel_rfl) (Nat.le_of_ble_eq_true rfl) ?_
    repeat ((first | refine oP rfl ?_ | refine rP rfl (fun _ z => z) ?_ | (refine kO 1 rfl ?_; refine rG (fun _ z => z) ?_) | (refine kO 3 rfl ?_; refine rG (fun _ z => z) ?_) | (refine kO 4 rfl ?_; refine rG (fun _ z => z) ?_) | (refine kO 7 rfl ?_; first | refine rG (fun _ z => ⟨_, s1, z⟩) ?_ | refine rG (fun _ z => ⟨_, s2, z⟩) ?_ | refine rG (fun _ z => ⟨_, f, z⟩) ?_) | refine oN ?_ | refine aS ?_ | refine aR ?_ | refine aT ?_ | refine aC rfl ?_ | refine bPt (by omega) ?_); (try conv => whnf))
    (rfl)
end Go.Proofs.Try
