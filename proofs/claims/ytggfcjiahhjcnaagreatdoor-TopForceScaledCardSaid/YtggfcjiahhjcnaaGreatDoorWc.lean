/- Parts of the proof, joined. -/
import Derived.Test.YtggfcjiahhjcnaaGreatDoorWb
import Derived.Test.YtggfcjiahhjcnaaGreatDoorWa
import Derived.Test.YtggfcjiahhjcnaaGreatDoorM
namespace Go.Proofs.Tryz
open Go.Fw Go.IntWalk Go.Plain
set_option maxRecDepth 100000
set_option maxHeartbeats 8000000
theorem windowErr_sat (a b : List Int) (ha : a.length ≤ maxLen) (hb : b.length ≤ maxLen) : Sat cx.P cx.gl 5 [W2 a b] (.one (I (windowErr a b))) := by
  unfold maxLen at ha hb
  have key : (¬ (0 < a.length ∧ a.length = b.length) → windowErr a b = 10) ∧ (0 < a.length → a.length = b.length → (15 < a.length → windowErr a b = 8) ∧ (a.length ≤ 15 → (¬ AllIn a (-100) 100 → windowErr a b = 2) ∧ (AllIn a (-100) 100 → (¬ AllIn b (-100) 100 → windowErr a b = 2) ∧ (AllIn b (-100) 100 → windowErr a b = if a.sum + b.sum = 0 then 0 else 13)))) := by
    unfold windowErr
    refine ⟨fun h => if_neg h, fun h1 h2 => ?_⟩
    rw [if_pos ⟨h1, h2⟩]
    refine ⟨fun h => if_neg (by omega), fun h3 => ?_⟩
    rw [if_pos h3]
    refine ⟨fun h => if_neg h, fun h4 => ?_⟩
    rw [if_pos h4]
    exact ⟨fun h => if_neg h, fun h5 => by rw [if_pos h5]⟩
  obtain ⟨k1, key⟩ := key
  generalize hw : windowErr a b = W at *
  clear hw
  refine Sat_of_awp (fn := f5) cx_ok (by kernel_rfl) (by kernel_rfl) rfl (by kernel_rfl) (Nat.le_of_ble_eq_true rfl) ?_
  repeat ((first | refine oP rfl ?_ | refine rP rfl (fun _ z => z) ?_ | (refine kO 1 rfl ?_; refine rG (fun _ z => z) ?_) | (refine kO 3 rfl ?_; refine rLdb rfl rfl rfl rfl rfl rfl rfl ?_) | (refine kO 6 rfl ?_; refine rLen rfl rfl rfl rfl rfl rfl ?_) | refine oN ?_ | refine aS ?_ | refine aR ?_); (try conv => whnf))
  ((refine opsA_unlessp rfl rfl rfl (fun h => ?_) (fun h => ?_)) <;> (try conv => whnf))
  · repeat ((first | refine oP rfl ?_ | refine rP rfl (fun _ z => z) ?_ | refine oN ?_ | refine aS ?_ | refine aR ?_ | refine aT ?_ | refine aC rfl ?_ | refine bT ?_ | refine oZ rfl rfl rfl ?_); (try conv => whnf))
    rw [k1 (by omega)]
  · repeat ((first | refine oP rfl ?_ | refine rP rfl (fun _ z => z) ?_ | (refine kO 1 rfl ?_; refine rG (fun _ z => z) ?_) | (refine kO 3 rfl ?_; refine rLdb rfl rfl rfl rfl rfl rfl rfl ?_) | (refine kO 6 rfl ?_; refine rLen rfl rfl rfl rfl rfl rfl ?_) | refine oN ?_ | refine aC rfl ?_ | refine oY rfl rfl rfl ?_); (try conv => whnf))
    ((refine brp (fun h => ?_) (fun h => ?_)) <;> (try conv => whnf))
    · repeat ((first | refine oP rfl ?_ | refine rP rfl (fun _ z => z) ?_ | refine oN ?_ | refine aS ?_ | refine aR ?_ | refine aT ?_); (try conv => whnf))
      rw [k1 (by omega)]
    · obtain ⟨k2, key⟩ := key (by omega) (by omega)
      repeat ((first | refine oP rfl ?_ | refine rP rfl (fun _ z => z) ?_ | (refine kO 1 rfl ?_; refine rG (fun _ z => z) ?_) | (refine kO 3 rfl ?_; refine rLdb rfl rfl rfl rfl rfl rfl rfl ?_) | (refine kO 6 rfl ?_; refine rLen rfl rfl rfl rfl rfl rfl ?_) | refine oN ?_ | refine aS ?_ | refine aR ?_ | refine aK ?_ | refine aC rfl ?_); (try conv => whnf))
      ((refine brp (fun h => ?_) (fun h => ?_)) <;> (try conv => whnf))
      · repeat ((first | refine oP rfl ?_ | refine rP rfl (fun _ z => z) ?_ | refine oN ?_ | refine aS ?_ | refine aR ?_ | refine aT ?_); (try conv => whnf))
        rw [k2 (by omega)]
      · obtain ⟨k3, key⟩ := key (by omega)
        repeat ((first | refine oP rfl ?_ | refine rP rfl (fun _ z => z) ?_ | refine oN ?_ | refine aS ?_ | refine aR ?_ | refine aK ?_ | refine aB ?_ | refine aL ?_); (try conv => whnf))
        refine loop_ind (ι := Nat) (fun i => i ≤ a.length ∧ ∀ j < i, -100 ≤ a.getD j 0 ∧ a.getD j 0 ≤ 100) (fun i => a.length - i) (fun i => ⟨[(1, pP 0), (3, vI (psum a i)), (4, vI i)], [(0, some (.box 24 [.st (.ints a), .st (.ints b)]))], 1⟩) 0 (canon_auto (by kernel_rfl)) ⟨Nat.zero_le _, by intro j hj; omega⟩ ?_
        rintro i ⟨hi, he⟩
        have b1 := psum_pre hi he
        have b2 : i < a.length → psum a (i + 1) = psum a i + a.getD i 0 := fun hh => psum_succ hh
        repeat ((first | refine oP rfl ?_ | refine rP rfl (fun _ z => z) ?_ | (refine kO 1 rfl ?_; refine rG (fun _ z => z) ?_) | (refine kO 3 rfl ?_; refine rLdb rfl rfl rfl rfl rfl rfl rfl ?_) | (refine kO 6 rfl ?_; refine rLen rfl rfl rfl rfl rfl rfl ?_) | refine oN ?_ | refine aS ?_ | refine aR ?_ | refine aC rfl ?_); (try conv => whnf))
        ((refine brp (fun h => ?_) (fun h => ?_)) <;> (try conv => whnf))
        · have hlt : i < a.length := by omega
          have b2 := b2 hlt
          repeat ((first | refine oP rfl ?_ | refine rP rfl (fun _ z => z) ?_ | (refine kO 2 rfl ?_; refine rG (fun _ z => z) ?_) | (refine kO 3 rfl ?_; first | refine rLdr rfl rfl rfl rfl rfl ?_ | refine rLdb rfl rfl rfl rfl rfl rfl rfl ?_) | (refine kO 5 rfl ?_; refine rIdN rfl rfl rfl rfl rfl rfl rfl (by omega) ?_) | (refine kO 7 rfl ?_; refine rG (fun _ z => ⟨_, within_p _ _ _, z⟩) ?_) | refine oN ?_ | refine aS ?_ | refine aR ?_ | refine aK ?_ | refine aB ?_ | refine aC rfl ?_); (try conv => whnf))
          ((refine brp (fun h => ?_) (fun h => ?_)) <;> (try conv => whnf))
          · repeat ((first | refine oP rfl ?_ | refine rP rfl (fun _ z => z) ?_ | refine oN ?_ | refine aS ?_ | refine aR ?_ | refine aT ?_); (try conv => whnf))
            rw [k3 (not_allIn hlt h)]
          · have h : -100 ≤ a.getD i 0 ∧ a.getD i 0 ≤ 100 := by omega
            repeat ((first | refine oP rfl ?_ | refine rP rfl (fun _ z => z) ?_ | (refine kO 1 rfl ?_; refine rAdd rfl rfl rfl (by omega) ?_) | (refine kO 3 rfl ?_; first | refine rLdr rfl rfl rfl rfl rfl ?_ | refine rLdb rfl rfl rfl rfl rfl rfl rfl ?_) | (refine kO 5 rfl ?_; refine rIdN rfl rfl rfl rfl rfl rfl rfl (by omega) ?_) | refine oN ?_ | refine aR ?_ | refine aK ?_); (try conv => whnf))
            rw [← b2]
            refine ⟨i + 1, ⟨hlt, fun j hj => ?_⟩, by omega, canon_auto (by kernel_rfl)⟩
            by_cases e : j = i
            · subst e; exact h
            · exact he j (by omega)
        · obtain rfl : i = a.length := by omega
          have hall := allIn_of he
          obtain ⟨k4, key⟩ := key hall
          have hs := sum_bound (B := 100) (by omega) hall
          rw [psum_all]
          clear b2 b1
          repeat ((first | refine oP rfl ?_ | refine rP rfl (fun _ z => z) ?_ | refine oN ?_ | refine aS ?_ | refine aR ?_ | refine aX ?_ | refine aB ?_ | refine aL ?_); (try conv => whnf))
          refine loop_ind (ι := Nat) (fun i => i ≤ b.length ∧ ∀ j < i, -100 ≤ b.getD j 0 ∧ b.getD j 0 ≤ 100) (fun i => b.length - i) (fun i => ⟨[(1, pP 0), (3, vI (a.sum + psum b i)), (5, vI i)], [(0, some (.box 24 [.st (.ints a), .st (.ints b)]))], 1⟩) 0 (canon_auto (by rw [psum_zero, Int.add_zero]; kernel_rfl)) ⟨Nat.zero_le _, by intro j hj; omega⟩ ?_
          rintro i ⟨hi, he⟩
          have b1 := psum_pre hi he
          have b2 : i < b.length → a.sum + psum b (i + 1) = a.sum + psum b i + b.getD i 0 := fun hh => by rw [psum_succ hh]; omega
          repeat ((first | refine oP rfl ?_ | refine rP rfl (fun _ z => z) ?_ | (refine kO 1 rfl ?_; refine rG (fun _ z => z) ?_) | (refine kO 3 rfl ?_; refine rLdb rfl rfl rfl rfl rfl rfl rfl ?_) | (refine kO 6 rfl ?_; refine rLen rfl rfl rfl rfl rfl rfl ?_) | refine oN ?_ | refine aS ?_ | refine aR ?_ | refine aC rfl ?_); (try conv => whnf))
          ((refine brp (fun h => ?_) (fun h => ?_)) <;> (try conv => whnf))
          · have hlt : i < b.length := by omega
            have b2 := b2 hlt
            repeat ((first | refine oP rfl ?_ | refine rP rfl (fun _ z => z) ?_ | (refine kO 2 rfl ?_; refine rG (fun _ z => z) ?_) | (refine kO 3 rfl ?_; first | refine rLdr rfl rfl rfl rfl rfl ?_ | refine rLdb rfl rfl rfl rfl rfl rfl rfl ?_) | (refine kO 5 rfl ?_; refine rIdN rfl rfl rfl rfl rfl rfl rfl (by omega) ?_) | (refine kO 7 rfl ?_; refine rG (fun _ z => ⟨_, within_p _ _ _, z⟩) ?_) | refine oN ?_ | refine aS ?_ | refine aR ?_ | refine aK ?_ | refine aB ?_ | refine aC rfl ?_); (try conv => whnf))
            ((refine brp (fun h => ?_) (fun h => ?_)) <;> (try conv => whnf))
            · repeat ((first | refine oP rfl ?_ | refine rP rfl (fun _ z => z) ?_ | refine oN ?_ | refine aS ?_ | refine aR ?_ | refine aT ?_); (try conv => whnf))
              rw [k4 (not_allIn hlt h)]
            · have h : -100 ≤ b.getD i 0 ∧ b.getD i 0 ≤ 100 := by omega
              repeat ((first | refine oP rfl ?_ | refine rP rfl (fun _ z => z) ?_ | (refine kO 1 rfl ?_; refine rAdd rfl rfl rfl (by omega) ?_) | (refine kO 3 rfl ?_; first | refine rLdr rfl rfl rfl rfl rfl ?_ | refine rLdb rfl rfl rfl rfl rfl rfl rfl ?_) | (refine kO 5 rfl ?_; refine rIdN rfl rfl rfl rfl rfl rfl rfl (by omega) ?_) | refine oN ?_ | refine aR ?_ | refine aK ?_); (try conv => whnf))
              rw [← b2]
              refine ⟨i + 1, ⟨hlt, fun j hj => ?_⟩, by omega, canon_auto (by kernel_rfl)⟩
              by_cases e : j = i
              · subst e; exact h
              · exact he j (by omega)
          · obtain rfl : i = b.length := by omega
            rw [psum_all]
            rw [key (allIn_of he)]
            repeat ((first | refine oP rfl ?_ | refine rP rfl (fun _ z => z) ?_ | (refine kO 1 rfl ?_; refine rG (fun _ z => z) ?_) | refine oN ?_ | refine aS ?_ | refine aR ?_ | refine aX ?_ | refine aC rfl ?_); (try conv => whnf))
            ((refine brp (fun h => ?_) (fun h => ?_)) <;> (try conv => whnf))
            · repeat ((first | refine oP rfl ?_ | refine rP rfl (fun _ z => z) ?_ | refine oN ?_ | refine aS ?_ | refine aR ?_ | refine aT ?_); (try conv => whnf))
              rw [if_neg h]
            · repeat ((first | refine oP rfl ?_ | refine rP rfl (fun _ z => z) ?_ | refine oN ?_ | refine aS ?_ | refine aR ?_ | refine aK ?_ | refine aT ?_); (try conv => whnf))
              rw [if_pos (by omega)]
end Go.Proofs.Tryz

namespace Go.Proofs.Tryz
open Go.Fw Go.IntWalk Go.Plain
set_option maxRecDepth 100000
set_option maxHeartbeats 8000000
end Go.Proofs.Tryz

namespace Go.Proofs.Tryz
open Go.Fw Go.IntWalk Go.Plain
set_option maxRecDepth 100000
set_option maxHeartbeats 8000000
def unitV (a b : List Int) (k : Int) : Int := unL (kindL a b k)
theorem isKind_sat (k : Int) : Sat cx.P cx.gl 30 [I k] (.one (Bo (decide (0 ≤ k) && decide (k ≤ 3)))) := by
  refine Sat_of_awp (fn := f30) cx_ok (by kernel_rfl) (by kernel_rfl) rfl (by kernel_rfl) (Nat.le_of_ble_eq_true rfl) ?_
  repeat' ((first | refine oP rfl ?_ | refine rP rfl (fun _ z => z) ?_ | (refine kO 7 rfl ?_; refine rG (fun _ z => ⟨_, within52_sat _ _ _, z⟩) ?_) | refine oN ?_ | refine aS ?_ | refine aR ?_ | refine aT ?_) <;> (try conv => whnf))
  rfl
theorem unit0_sat (a b A B X Y : List Int) (hs : Sat cx.P cx.gl 130 [W2 a b] (.one (W2 A B))) (hr : Sat cx.P cx.gl 131 [W2 a b] (.one (W2 X Y))) (hb : ∀ x ∈ A, -9000000 ≤ x ∧ x ≤ 9000000) (hlen : A.length ≤ 16) :
    Sat cx.P cx.gl 31 [W2 a b, I 0] (.one (I (unL A))) := by
  refine Sat_of_awp (fn := f31) cx_ok (by kernel_rfl) (by kernel_rfl) rfl (by kernel_rfl) (Nat.le_of_ble_eq_true rfl) ?_
  repeat ((first | refine oP rfl ?_ | refine rP rfl (fun _ z => z) ?_ | (refine kO 3 rfl ?_; first | refine rLdr rfl rfl rfl rfl rfl ?_ | refine rG (fun _ z => z) ?_) | (refine kO 7 rfl ?_; refine rG (fun _ z => ⟨_, hs, z⟩) ?_) | (refine kO 6 rfl ?_; refine rLen rfl rfl rfl rfl rfl rfl ?_) | refine oN ?_ | refine aS ?_ | refine aR ?_ | refine aB ?_ | refine aL ?_ | refine dI (by kernel_rfl) ?_ | refine rG (fun _ z => ⟨(by (omega)), z⟩) ?_); (try conv => whnf))
  refine loop_ind (ι := Nat) (fun i => i ≤ A.length) (fun i => A.length - i) (fun i => ⟨[(5, vI (unL (A.take i))), (18, vL A), (19, vI A.length), (20, vI i)], [], 0⟩) 0 (canon_auto (by kernel_rfl)) (Nat.zero_le _) ?_
  intro i hi
  have d1 : i < A.length → unL (A.take (i + 1)) = mx (unL (A.take i)) (ab (A.getD i 0)) := unL_succ
  have d2 : i < A.length → -9000000 ≤ A.getD i 0 ∧ A.getD i 0 ≤ 9000000 := fun h => hb _ (getD_mem h)
  repeat ((first | refine oP rfl ?_ | (refine kO 1 rfl ?_; refine rG (fun _ z => z) ?_) | refine oN ?_ | refine aS ?_ | refine aR ?_ | refine aC rfl ?_); (try conv => whnf))
  ((refine brp (fun h => ?_) (fun h => ?_)) <;> (try conv => whnf))
  · have hlt : i < A.length := by omega
    have d1 := d1 hlt
    have d2 := d2 hlt
    repeat ((first | refine oP rfl ?_ | refine rP rfl (fun _ z => z) ?_ | (refine kO 1 rfl ?_; refine rAdd rfl rfl rfl (by omega) ?_) | (refine kO 3 rfl ?_; refine rLdr rfl rfl rfl rfl rfl ?_) | (refine kO 5 rfl ?_; refine rIdN rfl rfl rfl rfl rfl rfl rfl (by omega) ?_) | (refine kO 7 rfl ?_; refine rG (fun _ z => ⟨_, size73_sat _ (by omega) (by omega), z⟩) ?_) | (refine kO 6 rfl ?_; refine rG (fun _ z => z) ?_) | refine oN ?_ | refine aS ?_ | refine aR ?_ | refine aK ?_ | refine aB ?_); (try conv => whnf))
    exact ⟨i + 1, hlt, by omega, canon_auto (by rw [d1]; kernel_rfl)⟩
  · repeat ((first | refine oP rfl ?_ | refine rP rfl (fun _ z => z) ?_ | refine oN ?_ | refine aS ?_ | refine aR ?_ | refine aX ?_ | refine aT ?_); (try conv => whnf))
    rw [show i = A.length by omega, List.take_length]
theorem unit1_sat (a b A B X Y : List Int) (hs : Sat cx.P cx.gl 130 [W2 a b] (.one (W2 A B))) (hr : Sat cx.P cx.gl 131 [W2 a b] (.one (W2 X Y))) (hb : ∀ x ∈ B, -9000000 ≤ x ∧ x ≤ 9000000) (hlen : B.length ≤ 16) :
    Sat cx.P cx.gl 31 [W2 a b, I 1] (.one (I (unL B))) := by
  refine Sat_of_awp (fn := f31) cx_ok (by kernel_rfl) (by kernel_rfl) rfl (by kernel_rfl) (Nat.le_of_ble_eq_true rfl) ?_
  repeat ((first | refine oP rfl ?_ | refine rP rfl (fun _ z => z) ?_ | (refine kO 3 rfl ?_; first | refine rLdr rfl rfl rfl rfl rfl ?_ | refine rG (fun _ z => z) ?_) | (refine kO 7 rfl ?_; refine rG (fun _ z => ⟨_, hs, z⟩) ?_) | (refine kO 6 rfl ?_; refine rLen rfl rfl rfl rfl rfl rfl ?_) | refine oN ?_ | refine aS ?_ | refine aR ?_ | refine aB ?_ | refine aL ?_ | refine dI (by kernel_rfl) ?_ | refine rG (fun _ z => ⟨(by (omega)), z⟩) ?_); (try conv => whnf))
  refine loop_ind (ι := Nat) (fun i => i ≤ B.length) (fun i => B.length - i) (fun i => ⟨[(5, vI (unL (B.take i))), (18, vL B), (19, vI B.length), (20, vI i)], [], 0⟩) 0 (canon_auto (by kernel_rfl)) (Nat.zero_le _) ?_
  intro i hi
  have d1 : i < B.length → unL (B.take (i + 1)) = mx (unL (B.take i)) (ab (B.getD i 0)) := unL_succ
  have d2 : i < B.length → -9000000 ≤ B.getD i 0 ∧ B.getD i 0 ≤ 9000000 := fun h => hb _ (getD_mem h)
  repeat ((first | refine oP rfl ?_ | (refine kO 1 rfl ?_; refine rG (fun _ z => z) ?_) | refine oN ?_ | refine aS ?_ | refine aR ?_ | refine aC rfl ?_); (try conv => whnf))
  ((refine brp (fun h => ?_) (fun h => ?_)) <;> (try conv => whnf))
  · have hlt : i < B.length := by omega
    have d1 := d1 hlt
    have d2 := d2 hlt
    repeat ((first | refine oP rfl ?_ | refine rP rfl (fun _ z => z) ?_ | (refine kO 1 rfl ?_; refine rAdd rfl rfl rfl (by omega) ?_) | (refine kO 3 rfl ?_; refine rLdr rfl rfl rfl rfl rfl ?_) | (refine kO 5 rfl ?_; refine rIdN rfl rfl rfl rfl rfl rfl rfl (by omega) ?_) | (refine kO 7 rfl ?_; refine rG (fun _ z => ⟨_, size73_sat _ (by omega) (by omega), z⟩) ?_) | (refine kO 6 rfl ?_; refine rG (fun _ z => z) ?_) | refine oN ?_ | refine aS ?_ | refine aR ?_ | refine aK ?_ | refine aB ?_); (try conv => whnf))
    exact ⟨i + 1, hlt, by omega, canon_auto (by rw [d1]; kernel_rfl)⟩
  · repeat ((first | refine oP rfl ?_ | refine rP rfl (fun _ z => z) ?_ | refine oN ?_ | refine aS ?_ | refine aR ?_ | refine aX ?_ | refine aT ?_); (try conv => whnf))
    rw [show i = B.length by omega, List.take_length]
theorem unit2_sat (a b A B X Y : List Int) (hs : Sat cx.P cx.gl 130 [W2 a b] (.one (W2 A B))) (hr : Sat cx.P cx.gl 131 [W2 a b] (.one (W2 X Y))) (hb : ∀ x ∈ X, -9000000 ≤ x ∧ x ≤ 9000000) (hlen : X.length ≤ 16) :
    Sat cx.P cx.gl 31 [W2 a b, I 2] (.one (I (unL X))) := by
  refine Sat_of_awp (fn := f31) cx_ok (by kernel_rfl) (by kernel_rfl) rfl (by kernel_rfl) (Nat.le_of_ble_eq_true rfl) ?_
  repeat ((first | refine oP rfl ?_ | refine rP rfl (fun _ z => z) ?_ | (refine kO 3 rfl ?_; first | refine rLdr rfl rfl rfl rfl rfl ?_ | refine rG (fun _ z => z) ?_) | (refine kO 7 rfl ?_; refine rG (fun _ z => ⟨_, hr, z⟩) ?_) | (refine kO 6 rfl ?_; refine rLen rfl rfl rfl rfl rfl rfl ?_) | refine oN ?_ | refine aS ?_ | refine aR ?_ | refine aB ?_ | refine aL ?_ | refine dI (by kernel_rfl) ?_ | refine rG (fun _ z => ⟨(by (omega)), z⟩) ?_); (try conv => whnf))
  refine loop_ind (ι := Nat) (fun i => i ≤ X.length) (fun i => X.length - i) (fun i => ⟨[(5, vI (unL (X.take i))), (18, vL X), (19, vI X.length), (20, vI i)], [], 0⟩) 0 (canon_auto (by kernel_rfl)) (Nat.zero_le _) ?_
  intro i hi
  have d1 : i < X.length → unL (X.take (i + 1)) = mx (unL (X.take i)) (ab (X.getD i 0)) := unL_succ
  have d2 : i < X.length → -9000000 ≤ X.getD i 0 ∧ X.getD i 0 ≤ 9000000 := fun h => hb _ (getD_mem h)
  repeat ((first | refine oP rfl ?_ | (refine kO 1 rfl ?_; refine rG (fun _ z => z) ?_) | refine oN ?_ | refine aS ?_ | refine aR ?_ | refine aC rfl ?_); (try conv => whnf))
  ((refine brp (fun h => ?_) (fun h => ?_)) <;> (try conv => whnf))
  · have hlt : i < X.length := by omega
    have d1 := d1 hlt
    have d2 := d2 hlt
    repeat ((first | refine oP rfl ?_ | refine rP rfl (fun _ z => z) ?_ | (refine kO 1 rfl ?_; refine rAdd rfl rfl rfl (by omega) ?_) | (refine kO 3 rfl ?_; refine rLdr rfl rfl rfl rfl rfl ?_) | (refine kO 5 rfl ?_; refine rIdN rfl rfl rfl rfl rfl rfl rfl (by omega) ?_) | (refine kO 7 rfl ?_; refine rG (fun _ z => ⟨_, size73_sat _ (by omega) (by omega), z⟩) ?_) | (refine kO 6 rfl ?_; refine rG (fun _ z => z) ?_) | refine oN ?_ | refine aS ?_ | refine aR ?_ | refine aK ?_ | refine aB ?_); (try conv => whnf))
    exact ⟨i + 1, hlt, by omega, canon_auto (by rw [d1]; kernel_rfl)⟩
  · repeat ((first | refine oP rfl ?_ | refine rP rfl (fun _ z => z) ?_ | refine oN ?_ | refine aS ?_ | refine aR ?_ | refine aX ?_ | refine aT ?_); (try conv => whnf))
    rw [show i = X.length by omega, List.take_length]
theorem unit3_sat (a b A B X Y : List Int) (hs : Sat cx.P cx.gl 130 [W2 a b] (.one (W2 A B))) (hr : Sat cx.P cx.gl 131 [W2 a b] (.one (W2 X Y))) (hb : ∀ x ∈ Y, -9000000 ≤ x ∧ x ≤ 9000000) (hlen : Y.length ≤ 16) :
    Sat cx.P cx.gl 31 [W2 a b, I 3] (.one (I (unL Y))) := by
  refine Sat_of_awp (fn := f31) cx_ok (by kernel_rfl) (by kernel_rfl) rfl (by kernel_rfl) (Nat.le_of_ble_eq_true rfl) ?_
  repeat ((first | refine oP rfl ?_ | refine rP rfl (fun _ z => z) ?_ | (refine kO 3 rfl ?_; first | refine rLdr rfl rfl rfl rfl rfl ?_ | refine rG (fun _ z => z) ?_) | (refine kO 7 rfl ?_; refine rG (fun _ z => ⟨_, hr, z⟩) ?_) | (refine kO 6 rfl ?_; refine rLen rfl rfl rfl rfl rfl rfl ?_) | refine oN ?_ | refine aS ?_ | refine aR ?_ | refine aB ?_ | refine aL ?_ | refine dI (by kernel_rfl) ?_ | refine rG (fun _ z => ⟨(by (omega)), z⟩) ?_); (try conv => whnf))
  refine loop_ind (ι := Nat) (fun i => i ≤ Y.length) (fun i => Y.length - i) (fun i => ⟨[(5, vI (unL (Y.take i))), (18, vL Y), (19, vI Y.length), (20, vI i)], [], 0⟩) 0 (canon_auto (by kernel_rfl)) (Nat.zero_le _) ?_
  intro i hi
  have d1 : i < Y.length → unL (Y.take (i + 1)) = mx (unL (Y.take i)) (ab (Y.getD i 0)) := unL_succ
  have d2 : i < Y.length → -9000000 ≤ Y.getD i 0 ∧ Y.getD i 0 ≤ 9000000 := fun h => hb _ (getD_mem h)
  repeat ((first | refine oP rfl ?_ | (refine kO 1 rfl ?_; refine rG (fun _ z => z) ?_) | refine oN ?_ | refine aS ?_ | refine aR ?_ | refine aC rfl ?_); (try conv => whnf))
  ((refine brp (fun h => ?_) (fun h => ?_)) <;> (try conv => whnf))
  · have hlt : i < Y.length := by omega
    have d1 := d1 hlt
    have d2 := d2 hlt
    repeat ((first | refine oP rfl ?_ | refine rP rfl (fun _ z => z) ?_ | (refine kO 1 rfl ?_; refine rAdd rfl rfl rfl (by omega) ?_) | (refine kO 3 rfl ?_; refine rLdr rfl rfl rfl rfl rfl ?_) | (refine kO 5 rfl ?_; refine rIdN rfl rfl rfl rfl rfl rfl rfl (by omega) ?_) | (refine kO 7 rfl ?_; refine rG (fun _ z => ⟨_, size73_sat _ (by omega) (by omega), z⟩) ?_) | (refine kO 6 rfl ?_; refine rG (fun _ z => z) ?_) | refine oN ?_ | refine aS ?_ | refine aR ?_ | refine aK ?_ | refine aB ?_); (try conv => whnf))
    exact ⟨i + 1, hlt, by omega, canon_auto (by rw [d1]; kernel_rfl)⟩
  · repeat ((first | refine oP rfl ?_ | refine rP rfl (fun _ z => z) ?_ | refine oN ?_ | refine aS ?_ | refine aR ?_ | refine aX ?_ | refine aT ?_); (try conv => whnf))
    rw [show i = Y.length by omega, List.take_length]
theorem unit_sat (a b : List Int) (k : Int) (hv : VW a b) (hk : 0 ≤ k ∧ k ≤ 3) : Sat cx.P cx.gl 31 [W2 a b, I k] (.one (I (unitV a b k))) := by
  have hb := kindL_bound hv k
  have hlen := kindL_len hv k
  have hs := thrusts_sat a b hv
  have hr := radial_sat a b hv
  unfold unitV
  have h4 : k = 0 ∨ k = 1 ∨ k = 2 ∨ k = 3 := by omega
  rcases h4 with rfl | rfl | rfl | rfl
  · exact unit0_sat a b _ _ _ _ hs hr hb hlen
  · exact unit1_sat a b _ _ _ _ hs hr hb hlen
  · exact unit2_sat a b _ _ _ _ hs hr hb hlen
  · exact unit3_sat a b _ _ _ _ hs hr hb hlen
/-- The error of a unit force. -/
def uErr (a b : List Int) (k : Int) : Int := if windowErr a b ≠ 0 then windowErr a b else if 0 ≤ k ∧ k ≤ 3 then 0 else 15
theorem unitOf_sat (a b : List Int) (k : Int) (ha : a.length ≤ maxLen) (hb : b.length ≤ maxLen) : Sat cx.P cx.gl 12 [W2 a b, I k] (.tup (if uErr a b k = 0 then [I (unitV a b k), I 0] else [I 0, I (uErr a b k)])) := by
  have hfs : fs [windowErr a b, if 0 ≤ k ∧ k ≤ 3 then 0 else 15] = uErr a b k := by
    unfold uErr; by_cases h : windowErr a b = 0 <;> simp [fs, h]
  refine Sat_of_awp (fn := f12) cx_ok (by kernel_rfl) (by kernel_rfl) rfl (by kernel_rfl) (Nat.le_of_ble_eq_true rfl) ?_
  repeat ((first | refine oP rfl ?_ | refine rP rfl (fun _ z => z) ?_ | (refine kO 1 rfl ?_; refine rG (fun _ z => z) ?_) | (refine kO 3 rfl ?_; refine rG (fun _ z => z) ?_) | (refine kO 4 rfl ?_; refine rG (fun _ z => z) ?_) | (refine kO 7 rfl ?_; first | refine rG (fun _ z => ⟨_, open_sat a b ha hb, z⟩) ?_ | refine rG (fun _ z => ⟨_, isKind_sat _, z⟩) ?_ | refine rG (fun _ z => ⟨_, unless_p _, z⟩) ?_ | refine rG (fun _ z => ⟨_, first_fs _ (Nat.le_of_ble_eq_true rfl), z⟩) ?_) | refine oN ?_ | refine aS ?_ | refine aR ?_ | refine aC rfl ?_); (try conv => whnf))
  rw [hfs]
  ((refine brp (fun h => ?_) (fun h => ?_)) <;> (try conv => whnf))
  · repeat ((first | refine oP rfl ?_ | refine rP rfl (fun _ z => z) ?_ | refine oN ?_ | refine aS ?_ | refine aR ?_ | refine aT ?_); (try conv => whnf))
    rw [if_neg h]; rfl
  · have h0 : uErr a b k = 0 := by omega
    rw [if_pos h0]
    have hw : windowErr a b = 0 := by
      unfold uErr at h0; split at h0 <;> omega
    have hk : 0 ≤ k ∧ k ≤ 3 := by
      unfold uErr at h0; rw [if_neg (by omega)] at h0; split at h0 <;> omega
    repeat ((first | refine oP rfl ?_ | refine rP rfl (fun _ z => z) ?_ | (refine kO 3 rfl ?_; refine rG (fun _ z => z) ?_) | (refine kO 7 rfl ?_; refine rG (fun _ z => ⟨_, unit_sat a b k (windowErr_zero.1 hw) hk, z⟩) ?_) | refine oN ?_ | refine aS ?_ | refine aR ?_ | refine aK ?_ | refine aT ?_); (try conv => whnf))
    rfl
end Go.Proofs.Tryz
