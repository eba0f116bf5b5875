/- Parts of the proof, joined. -/
import Derived.Test.YtipakjlkkefljaaGreatDoorWb
import Derived.Test.YtipakjlkkefljaaGreatDoorWa
import Derived.Test.YtipakjlkkefljaaGreatDoorM
namespace Go.Proofs.Tryz
open Go.Fw Go.IntWalk Go.Plain
set_option maxRecDepth 100000
set_option maxHeartbeats 8000000
theorem windowErr_sat (a b : List Int) (ha : a.length ≤ maxLen) (hb : b.length ≤ maxLen) : Sat cx.P cx.gl 12 [W2 a b] (.one (I (windowErr a b))) := by
  unfold maxLen at ha hb
  have key : (¬ (0 < a.length ∧ a.length = b.length) → windowErr a b = 10) ∧ (0 < a.length → a.length = b.length → (15 < a.length → windowErr a b = 8) ∧ (a.length ≤ 15 → (¬ AllIn a (-100) 100 → windowErr a b = 2) ∧ (AllIn a (-100) 100 → (¬ AllIn b (-100) 100 → windowErr a b = 2) ∧ (AllIn b (-100) 100 → windowErr a b = if a.sum + b.sum = 0 then 0 else 13)))) := by
    unfold windowErr
    refine ⟨fun h => if_neg h, fun h1 h2 => ?_⟩
    rw [if_pos ⟨h1, h2⟩]
    refine ⟨fun h => if_neg (by omega), fun h3 => ?_⟩
    rw [if_pos h3]
    refine ⟨fun h => if_neg h, fun h4 => ?_⟩
    rw [if_pos h4]
    exact ⟨fun h => if_neg h, fun h5 => by rw [if_pos h5]⟩
  obtain ⟨k1, key⟩ := key
  generalize hw : windowErr a b = W at *
  clear hw
  refine Sat_of_awp (fn := f12) cx_ok (by kernel_rfl) (by kernel_rfl) rfl (by kernel_rfl) (Nat.le_of_ble_eq_true rfl) ?_
  repeat ((first | refine oP rfl ?_ | refine rP rfl (fun _ z => z) ?_ | (refine kO 1 rfl ?_; refine rG (fun _ z => z) ?_) | (refine kO 3 rfl ?_; refine rLdb rfl rfl rfl rfl rfl rfl rfl ?_) | (refine kO 6 rfl ?_; refine rLen rfl rfl rfl rfl rfl rfl ?_) | refine oN ?_ | refine aS ?_ | refine aR ?_); (try conv => whnf))
  ((refine opsA_unlessp rfl rfl rfl (fun h => ?_) (fun h => ?_)) <;> (try conv => whnf))
  · repeat ((first | refine oP rfl ?_ | refine rP rfl (fun _ z => z) ?_ | refine oN ?_ | refine aS ?_ | refine aR ?_ | refine aT ?_ | refine aC rfl ?_ | refine bT ?_ | refine oZ rfl rfl rfl ?_); (try conv => whnf))
    rw [k1 (by omega)]
  · repeat ((first | refine oP rfl ?_ | refine rP rfl (fun _ z => z) ?_ | (refine kO 1 rfl ?_; refine rG (fun _ z => z) ?_) | (refine kO 3 rfl ?_; refine rLdb rfl rfl rfl rfl rfl rfl rfl ?_) | (refine kO 6 rfl ?_; refine rLen rfl rfl rfl rfl rfl rfl ?_) | refine oN ?_ | refine aC rfl ?_ | refine oY rfl rfl rfl ?_); (try conv => whnf))
    ((refine brp (fun h => ?_) (fun h => ?_)) <;> (try conv => whnf))
    · repeat ((first | refine oP rfl ?_ | refine rP rfl (fun _ z => z) ?_ | refine oN ?_ | refine aS ?_ | refine aR ?_ | refine aT ?_); (try conv => whnf))
      rw [k1 (by omega)]
    · obtain ⟨k2, key⟩ := key (by omega) (by omega)
      repeat ((first | refine oP rfl ?_ | refine rP rfl (fun _ z => z) ?_ | (refine kO 1 rfl ?_; refine rG (fun _ z => z) ?_) | (refine kO 3 rfl ?_; refine rLdb rfl rfl rfl rfl rfl rfl rfl ?_) | (refine kO 6 rfl ?_; refine rLen rfl rfl rfl rfl rfl rfl ?_) | refine oN ?_ | refine aS ?_ | refine aR ?_ | refine aK ?_ | refine aC rfl ?_); (try conv => whnf))
      ((refine brp (fun h => ?_) (fun h => ?_)) <;> (try conv => whnf))
      · repeat ((first | refine oP rfl ?_ | refine rP rfl (fun _ z => z) ?_ | refine oN ?_ | refine aS ?_ | refine aR ?_ | refine aT ?_); (try conv => whnf))
        rw [k2 (by omega)]
      · obtain ⟨k3, key⟩ := key (by omega)
        repeat ((first | refine oP rfl ?_ | refine rP rfl (fun _ z => z) ?_ | refine oN ?_ | refine aS ?_ | refine aR ?_ | refine aK ?_ | refine aB ?_ | refine aL ?_); (try conv => whnf))
        refine loop_ind (ι := Nat) (fun i => i ≤ a.length ∧ ∀ j < i, -100 ≤ a.getD j 0 ∧ a.getD j 0 ≤ 100) (fun i => a.length - i) (fun i => ⟨[(1, pP 0), (3, vI (psum a i)), (4, vI i)], [(0, some (.box 24 [.st (.ints a), .st (.ints b)]))], 1⟩) 0 (canon_auto (by kernel_rfl)) ⟨Nat.zero_le _, by intro j hj; omega⟩ ?_
        rintro i ⟨hi, he⟩
        have b1 := psum_pre hi he
        have b2 : i < a.length → psum a (i + 1) = psum a i + a.getD i 0 := fun hh => psum_succ hh
        repeat ((first | refine oP rfl ?_ | refine rP rfl (fun _ z => z) ?_ | (refine kO 1 rfl ?_; refine rG (fun _ z => z) ?_) | (refine kO 3 rfl ?_; refine rLdb rfl rfl rfl rfl rfl rfl rfl ?_) | (refine kO 6 rfl ?_; refine rLen rfl rfl rfl rfl rfl rfl ?_) | refine oN ?_ | refine aS ?_ | refine aR ?_ | refine aC rfl ?_); (try conv => whnf))
        ((refine brp (fun h => ?_) (fun h => ?_)) <;> (try conv => whnf))
        · have hlt : i < a.length := by omega
          have b2 := b2 hlt
          repeat ((first | refine oP rfl ?_ | refine rP rfl (fun _ z => z) ?_ | (refine kO 2 rfl ?_; refine rG (fun _ z => z) ?_) | (refine kO 3 rfl ?_; first | refine rLdr rfl rfl rfl rfl rfl ?_ | refine rLdb rfl rfl rfl rfl rfl rfl rfl ?_) | (refine kO 5 rfl ?_; refine rIdN rfl rfl rfl rfl rfl rfl rfl (by omega) ?_) | (refine kO 7 rfl ?_; refine rG (fun _ z => ⟨_, within_p _ _ _, z⟩) ?_) | refine oN ?_ | refine aS ?_ | refine aR ?_ | refine aK ?_ | refine aB ?_ | refine aC rfl ?_); (try conv => whnf))
          ((refine brp (fun h => ?_) (fun h => ?_)) <;> (try conv => whnf))
          · repeat ((first | refine oP rfl ?_ | refine rP rfl (fun _ z => z) ?_ | refine oN ?_ | refine aS ?_ | refine aR ?_ | refine aT ?_); (try conv => whnf))
            rw [k3 (not_allIn hlt h)]
          · have h : -100 ≤ a.getD i 0 ∧ a.getD i 0 ≤ 100 := by omega
            repeat ((first | refine oP rfl ?_ | refine rP rfl (fun _ z => z) ?_ | (refine kO 1 rfl ?_; refine rAdd rfl rfl rfl (by omega) ?_) | (refine kO 3 rfl ?_; first | refine rLdr rfl rfl rfl rfl rfl ?_ | refine rLdb rfl rfl rfl rfl rfl rfl rfl ?_) | (refine kO 5 rfl ?_; refine rIdN rfl rfl rfl rfl rfl rfl rfl (by omega) ?_) | refine oN ?_ | refine aR ?_ | refine aK ?_); (try conv => whnf))
            rw [← b2]
            refine ⟨i + 1, ⟨hlt, fun j hj => ?_⟩, by omega, canon_auto (by kernel_rfl)⟩
            by_cases e : j = i
            · subst e; exact h
            · exact he j (by omega)
        · obtain rfl : i = a.length := by omega
          have hall := allIn_of he
          obtain ⟨k4, key⟩ := key hall
          have hs := sum_bound (B := 100) (by omega) hall
          rw [psum_all]
          clear b2 b1
          repeat ((first | refine oP rfl ?_ | refine rP rfl (fun _ z => z) ?_ | refine oN ?_ | refine aS ?_ | refine aR ?_ | refine aX ?_ | refine aB ?_ | refine aL ?_); (try conv => whnf))
          refine loop_ind (ι := Nat) (fun i => i ≤ b.length ∧ ∀ j < i, -100 ≤ b.getD j 0 ∧ b.getD j 0 ≤ 100) (fun i => b.length - i) (fun i => ⟨[(1, pP 0), (3, vI (a.sum + psum b i)), (5, vI i)], [(0, some (.box 24 [.st (.ints a), .st (.ints b)]))], 1⟩) 0 (canon_auto (by rw [psum_zero, Int.add_zero]; kernel_rfl)) ⟨Nat.zero_le _, by intro j hj; omega⟩ ?_
          rintro i ⟨hi, he⟩
          have b1 := psum_pre hi he
          have b2 : i < b.length → a.sum + psum b (i + 1) = a.sum + psum b i + b.getD i 0 := fun hh => by rw [psum_succ hh]; omega
          repeat ((first | refine oP rfl ?_ | refine rP rfl (fun _ z => z) ?_ | (refine kO 1 rfl ?_; refine rG (fun _ z => z) ?_) | (refine kO 3 rfl ?_; refine rLdb rfl rfl rfl rfl rfl rfl rfl ?_) | (refine kO 6 rfl ?_; refine rLen rfl rfl rfl rfl rfl rfl ?_) | refine oN ?_ | refine aS ?_ | refine aR ?_ | refine aC rfl ?_); (try conv => whnf))
          ((refine brp (fun h => ?_) (fun h => ?_)) <;> (try conv => whnf))
          · have hlt : i < b.length := by omega
            have b2 := b2 hlt
            repeat ((first | refine oP rfl ?_ | refine rP rfl (fun _ z => z) ?_ | (refine kO 2 rfl ?_; refine rG (fun _ z => z) ?_) | (refine kO 3 rfl ?_; first | refine rLdr rfl rfl rfl rfl rfl ?_ | refine rLdb rfl rfl rfl rfl rfl rfl rfl ?_) | (refine kO 5 rfl ?_; refine rIdN rfl rfl rfl rfl rfl rfl rfl (by omega) ?_) | (refine kO 7 rfl ?_; refine rG (fun _ z => ⟨_, within_p _ _ _, z⟩) ?_) | refine oN ?_ | refine aS ?_ | refine aR ?_ | refine aK ?_ | refine aB ?_ | refine aC rfl ?_); (try conv => whnf))
            ((refine brp (fun h => ?_) (fun h => ?_)) <;> (try conv => whnf))
            · repeat ((first | refine oP rfl ?_ | refine rP rfl (fun _ z => z) ?_ | refine oN ?_ | refine aS ?_ | refine aR ?_ | refine aT ?_); (try conv => whnf))
              rw [k4 (not_allIn hlt h)]
            · have h : -100 ≤ b.getD i 0 ∧ b.getD i 0 ≤ 100 := by omega
              repeat ((first | refine oP rfl ?_ | refine rP rfl (fun _ z => z) ?_ | (refine kO 1 rfl ?_; refine rAdd rfl rfl rfl (by omega) ?_) | (refine kO 3 rfl ?_; first | refine rLdr rfl rfl rfl rfl rfl ?_ | refine rLdb rfl rfl rfl rfl rfl rfl rfl ?_) | (refine kO 5 rfl ?_; refine rIdN rfl rfl rfl rfl rfl rfl rfl (by omega) ?_) | refine oN ?_ | refine aR ?_ | refine aK ?_); (try conv => whnf))
              rw [← b2]
              refine ⟨i + 1, ⟨hlt, fun j hj => ?_⟩, by omega, canon_auto (by kernel_rfl)⟩
              by_cases e : j = i
              · subst e; exact h
              · exact he j (by omega)
          · obtain rfl : i = b.length := by omega
            rw [psum_all]
            rw [key (allIn_of he)]
            repeat ((first | refine oP rfl ?_ | refine rP rfl (fun _ z => z) ?_ | (refine kO 1 rfl ?_; refine rG (fun _ z => z) ?_) | refine oN ?_ | refine aS ?_ | refine aR ?_ | refine aX ?_ | refine aC rfl ?_); (try conv => whnf))
            ((refine brp (fun h => ?_) (fun h => ?_)) <;> (try conv => whnf))
            · repeat ((first | refine oP rfl ?_ | refine rP rfl (fun _ z => z) ?_ | refine oN ?_ | refine aS ?_ | refine aR ?_ | refine aT ?_); (try conv => whnf))
              rw [if_neg h]
            · repeat ((first | refine oP rfl ?_ | refine rP rfl (fun _ z => z) ?_ | refine oN ?_ | refine aS ?_ | refine aR ?_ | refine aK ?_ | refine aT ?_); (try conv => whnf))
              rw [if_pos (by omega)]
end Go.Proofs.Tryz
