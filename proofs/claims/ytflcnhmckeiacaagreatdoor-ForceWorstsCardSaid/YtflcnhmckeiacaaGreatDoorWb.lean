/- Parts of the proof, joined. -/
import Derived.Test.YtflcnhmckeiacaaGreatDoorWa
import Derived.Test.YtflcnhmckeiacaaGreatDoorM
namespace Go.Proofs.Tryz
open Go.Fw Go.IntWalk Go.Plain
set_option maxRecDepth 100000
set_option maxHeartbeats 4000000
theorem checkWindow_sat (a b : List Int) (ha : a.length ≤ maxLen) (hb : b.length ≤ maxLen) : Sat cx.P cx.gl 42 [W2 a b] (.one (I (windowErr a b))) := by
  have hz : ∀ {l : List Int} {p q : Prop} [Decidable p] [Decidable q] {r s : Prop} [Decidable r] [Decidable s], fs [if p then 0 else 10, if q then 0 else 8, if r then 0 else 2, if s then 0 else 2] = if p then if q then if r then if s then 0 else 2 else 2 else 8 else 10 := by
    intro l p q _ _ r s _ _
    simp only [fs, ifE (show (10 : Int) ≠ 0 by decide), ifE (show (8 : Int) ≠ 0 by decide), ifE (show (2 : Int) ≠ 0 by decide), if0]
  have hs : (∀ n ∈ a, -100 ≤ n ∧ n ≤ 100) → (∀ n ∈ b, -100 ≤ n ∧ n ≤ 100) → a.length ≤ 15 → b.length ≤ 15 → (-1500 ≤ a.sum ∧ a.sum ≤ 1500) ∧ (-1500 ≤ b.sum ∧ b.sum ≤ 1500) := by
    intro h1 h2 h3 h4
    have := sum_bound (B := 100) (by omega) h1
    have := sum_bound (B := 100) (by omega) h2
    omega
  refine Sat_of_awp (fn := f42) cx_ok (by kernel_rfl) (by kernel_rfl) rfl (by kernel_rfl) (Nat.le_of_ble_eq_true rfl) ?_
  repeat' ((first | refine oP rfl ?_ | refine rP rfl (fun _ z => z) ?_ | (refine kO 1 rfl ?_; refine rG (fun _ z => z) ?_) | (refine kO 3 rfl ?_; refine rLdb rfl rfl rfl rfl rfl rfl rfl ?_) | (refine kO 7 rfl ?_; first | refine rG (fun _ z => ⟨_, unless_p _, z⟩) ?_ | refine rG (fun _ z => ⟨_, fails_sat _ _ _ ha, z⟩) ?_ | refine rG (fun _ z => ⟨_, fails_sat _ _ _ hb, z⟩) ?_ | refine rG (fun _ z => ⟨_, first_fs _ (Nat.le_of_ble_eq_true rfl), z⟩) ?_) | (refine kO 6 rfl ?_; refine rLen rfl rfl rfl rfl rfl rfl ?_) | refine oN ?_ | refine aS ?_ | refine aR ?_ | refine aK ?_ | refine aT ?_ | refine aC rfl ?_ | refine bT ?_ | refine oY rfl rfl rfl ?_ | refine oZ rfl rfl rfl ?_ | refine dI (by kernel_rfl) ?_ | refine brp (fun h => ?_) (fun h => ?_) | refine opsA_ifp rfl rfl rfl (fun h => ?_) (fun h => ?_)) <;> (try conv => whnf))
  · refine res_i ?_
    rw [hz (l := [])] at *
    unfold windowErr
    revert h
    (repeat' split) <;> simp <;> omega
  · rw [hz (l := [])] at h
    have hh : a.length = b.length ∧ a.length ≤ 15 ∧ AllIn a (-100) 100 ∧ AllIn b (-100) 100 := by
      (repeat' split at h) <;> first | (exact absurd h (by decide)) | (refine ⟨by omega, by omega, by assumption, by assumption⟩)
    obtain ⟨h1, h2, h3, h4⟩ := hh
    have h5 := hs h3 h4 h2 (by omega)
    repeat' ((first | refine oP rfl ?_ | refine rP rfl (fun _ z => z) ?_ | (refine kO 1 rfl ?_; first | refine rAdd rfl rfl rfl (by omega) ?_ | refine rG (fun _ z => z) ?_) | (refine kO 3 rfl ?_; refine rLdb rfl rfl rfl rfl rfl rfl rfl ?_) | (refine kO 7 rfl ?_; first | refine rG (fun _ z => ⟨_, sum_sat _ (by omega) h3, z⟩) ?_ | refine rG (fun _ z => ⟨_, sum_sat _ (by omega) h4, z⟩) ?_ | refine rG (fun _ z => ⟨_, unless_p _, z⟩) ?_) | refine oN ?_ | refine aT ?_ | refine dI (by kernel_rfl) ?_) <;> (try conv => whnf))
    refine res_i ?_
    unfold windowErr
    rw [if_pos (show 0 < a.length ∧ a.length = b.length by omega), if_pos h2, if_pos h3, if_pos h4]
  · refine res_i ?_
    unfold windowErr
    rw [if_neg (show ¬ (0 < a.length ∧ a.length = b.length) by omega)]; simp [fs]
theorem copyInts_sat (l : List Int) (hl : l.length ≤ 4294967296) : Sat cx.P cx.gl 31 [L l] (.own 1 (.ints l)) := by
  refine Sat_of_awp (fn := f31) cx_ok (by kernel_rfl) (by kernel_rfl) rfl (by kernel_rfl) (Nat.le_of_ble_eq_true rfl) ?_
  repeat' ((first | refine oP rfl ?_ | refine rP rfl (fun _ z => z) ?_ | refine oN ?_ | refine aS ?_ | refine aR ?_ | refine aT ?_ | refine rG (fun _ z => ⟨(by (rfl)), (by (exact lnN (by omega))), z⟩) ?_) <;> (try conv => whnf))
  rfl
theorem open_sat (a b : List Int) (ha : a.length ≤ maxLen) (hb : b.length ≤ maxLen) : Sat cx.P cx.gl 56 [W2 a b] (.tup [W2 a b, I (windowErr a b)]) := by
  refine Sat_of_awp (fn := f56) cx_ok (by kernel_rfl) (by kernel_rfl) rfl (by kernel_rfl) (Nat.le_of_ble_eq_true rfl) ?_
  repeat' ((first | refine oP rfl ?_ | refine rP rfl (fun _ z => z) ?_ | (refine kO 3 rfl ?_; refine rG (fun _ z => z) ?_) | (refine kO 4 rfl ?_; refine rG (fun _ z => z) ?_) | (refine kO 7 rfl ?_; refine rG (fun _ z => ⟨_, checkWindow_sat a b ha hb, z⟩) ?_) | refine oN ?_ | refine aS ?_ | refine aR ?_ | refine aT ?_ | refine dI (by kernel_rfl) ?_) <;> (try conv => whnf))
  rfl
theorem residuals_sat (a b : List Int) (hv : VW a b) : Sat cx.P cx.gl 58 [W2 a b] (.own 1 (.ints (residL a b a.length))) := by
  have hl := hv.len
  have hle := hv.le
  refine Sat_of_awp (fn := f58) cx_ok (by kernel_rfl) (by kernel_rfl) rfl (by kernel_rfl) (Nat.le_of_ble_eq_true rfl) ?_
  repeat ((first | refine oP rfl ?_ | refine rP rfl (fun _ z => z) ?_ | (refine kO 3 rfl ?_; refine rLdb rfl rfl rfl rfl rfl rfl rfl ?_) | (refine kO 6 rfl ?_; refine rLen rfl rfl rfl rfl rfl rfl ?_) | refine oN ?_ | refine aS ?_ | refine aR ?_ | refine aB ?_ | refine aL ?_); (try conv => whnf))
  refine loop_ind (ι := Nat) (fun i => i ≤ a.length) (fun i => a.length - i) (fun i => ⟨[(1, pP 0), (3, pO 1), (9, vL a), (10, vI a.length), (11, vI i)], [(0, some (.box 79 [.st (.ints a), .st (.ints b)])), (1, some (.row true 1 (.ints (residL a b i))))], 2⟩) 0 (canon_auto (by kernel_rfl)) (Nat.zero_le _) ?_
  intro i hi
  have b1 := hv.rs_bound i
  have b2 := hv.rs_bound (i + 1)
  have b3 := hv.a_bound i
  have b4 := hv.b_bound i
  have b5 := residL_len a b i
  have b6 := residL_getD (a := a) (b := b) (Nat.le_refl i)
  repeat ((first | refine oP rfl ?_ | (refine kO 1 rfl ?_; refine rG (fun _ z => z) ?_) | refine oN ?_ | refine aS ?_ | refine aR ?_ | refine aC rfl ?_); (try conv => whnf))
  ((refine brp (fun h => ?_) (fun h => ?_)) <;> (try conv => whnf))
  · have hlt : i < a.length := by omega
    have b7 := rs_succ hlt hl
    repeat ((first | refine oP rfl ?_ | refine rP rfl (fun _ z => z) ?_ | (refine kO 1 rfl ?_; refine rAdd rfl rfl rfl (by omega) ?_) | (refine kO 3 rfl ?_; first | refine rLdr rfl rfl rfl rfl rfl ?_ | refine rLdb rfl rfl rfl rfl rfl rfl rfl ?_ | refine rLdi rfl rfl rfl rfl rfl rfl (by omega) ?_) | (refine kO 5 rfl ?_; first | refine rIdN rfl rfl rfl rfl rfl rfl rfl (by omega) ?_ | refine rIdoN rfl rfl rfl rfl rfl rfl rfl rfl (by (dsimp only [SC.len]; omega)) ?_) | refine oN ?_ | refine aS ?_ | refine aR ?_ | refine aK ?_ | refine aB ?_ | refine dI (by kernel_rfl) ?_ | refine rG (fun _ z => ⟨(by (rfl)), (by (exact lnS (by omega))), z⟩) ?_); (try conv => whnf))
    rw [b6, ← b7, ← residL_succ]
    exact ⟨i + 1, hlt, by omega, canon_auto (by kernel_rfl)⟩
  · repeat ((first | refine oP rfl ?_ | refine rP rfl (fun _ z => z) ?_ | refine oN ?_ | refine aS ?_ | refine aR ?_ | refine aX ?_ | refine aT ?_); (try conv => whnf))
    rw [show i = a.length by omega]
theorem both_sat (a b : List Int) : Sat cx.P cx.gl 59 [W2 a b] (.one (W2 a b)) := by
  refine Sat_of_awp (fn := f59) cx_ok (by kernel_rfl) (by kernel_rfl) rfl (by kernel_rfl) (Nat.le_of_ble_eq_true rfl) ?_
  repeat' ((first | refine oP rfl ?_ | refine rP rfl (fun _ z => z) ?_ | (refine kO 3 rfl ?_; refine rLdb rfl rfl rfl rfl rfl rfl rfl ?_) | (refine kO 4 rfl ?_; refine rG (fun _ z => z) ?_) | refine oN ?_ | refine aS ?_ | refine aR ?_ | refine aT ?_) <;> (try conv => whnf))
  rfl
theorem axial_sat (a b : List Int) (hv : VW a b) : Sat cx.P cx.gl 87 [W2 a b] (.one (W2 (axL a a b a.length) (axL b a b a.length))) := by
  have hl := hv.len
  have hle := hv.le
  have hpos := hv.pos
  have c1 := residL_len a b a.length
  have c2 : ∀ i, i ≤ a.length → (residL a b a.length).getD i 0 = rs a b i := fun i hi => residL_getD hi
  have c3 := hv.rs_bound
  have f1 : ∀ i, i < a.length → (-6000 ≤ rs a b i + rs a b (i + 1) ∧ rs a b i + rs a b (i + 1) ≤ 6000) := fun i _ => by have := c3 i; have := c3 (i + 1); omega
  refine Sat_of_awp (fn := f87) cx_ok (by kernel_rfl) (by kernel_rfl) rfl (by kernel_rfl) (Nat.le_of_ble_eq_true rfl) ?_
  repeat ((first | refine oP rfl ?_ | refine rP rfl (fun _ z => z) ?_ | (refine kO 3 rfl ?_; refine rG (fun _ z => z) ?_) | (refine kO 7 rfl ?_; first | refine rG (fun _ z => ⟨_, residuals_sat a b hv, z⟩) ?_ | refine rG (fun _ z => ⟨_, both_sat a b, z⟩) ?_) | refine oN ?_ | refine aS ?_ | refine aR ?_ | refine aB ?_ | refine aL ?_); (try conv => whnf))
  refine loop_round ?_
  repeat ((first | refine oP rfl ?_ | refine rP rfl (fun _ z => z) ?_ | (refine kO 1 rfl ?_; refine rG (fun _ z => z) ?_) | (refine kO 6 rfl ?_; refine rLen rfl rfl rfl rfl rfl rfl ?_) | refine oN ?_ | refine aS ?_ | refine aR ?_ | refine aK ?_ | refine aB ?_ | refine aC rfl ?_ | refine bT ?_ | refine aL ?_ | refine rG (fun _ z => ⟨(by (omega)), z⟩) ?_); (try conv => whnf))
  refine loop_round ?_
  have d1 := c2 0 (by omega)
  have d2 := c2 (0 + 1) (by omega)
  have d3 := f1 0 hpos
  have d4 := hv.ax_bound hv.ra 0
  unfold axF at d4
  rw [← d1, ← d2] at d4
  repeat ((first | refine oP rfl ?_ | refine rP rfl (fun _ z => z) ?_ | (refine kO 1 rfl ?_; first | refine rAdd rfl rfl rfl (by omega) ?_ | refine rMul rfl rfl rfl (by omega) ?_ | refine rG (fun _ z => z) ?_) | (refine kO 3 rfl ?_; first | refine rLdr rfl rfl rfl rfl rfl ?_ | refine rLdb rfl rfl rfl rfl rfl rfl rfl ?_ | refine rLdi rfl rfl rfl rfl rfl rfl (by omega) ?_) | (refine kO 4 rfl ?_; refine rG (fun _ z => z) ?_) | (refine kO 5 rfl ?_; first | refine rIdN rfl rfl rfl rfl rfl rfl rfl (by omega) ?_ | refine rIdoN rfl rfl rfl rfl rfl rfl rfl rfl (by (dsimp only [SC.len]; omega)) ?_) | refine oN ?_ | refine aS ?_ | refine aR ?_ | refine aK ?_ | refine aB ?_ | refine aC rfl ?_ | refine bPt (by omega) ?_ | refine dI (by kernel_rfl) ?_ | refine rG (fun _ z => ⟨(by (omega)), z⟩) ?_ | refine rG (fun _ z => ⟨(by (rfl)), (by (((try unfold SC.len); (try unfold SC.uni); (try unfold LIM); (try simp); (try omega); done))), z⟩) ?_); (try conv => whnf))
  refine loop_ind (ι := Nat) (fun i => 1 ≤ i ∧ i ≤ a.length) (fun i => a.length - i) (fun i => ⟨[(1, pP 0), (2, pP 1), (3, pP 2), (4, pO 3), (12, some (.val (true, [.st (.ints a), .st (.ints b)]))), (13, vI 0), (5, vI 0), (17, vL a), (18, vI a.length), (19, vI i)],
    [(0, some (.box 79 [.st (.ints a), .st (.ints b)])), (1, some (.box 54 [.nil, .nil])), (2, some (.box 54 [.own 4, .nil])), (3, some (.row true 1 (.ints (residL a b a.length)))), (4, some (.row true 1 (.ints (axL a a b i))))], 5⟩) 1 (canon_auto (by rw [d1, d2]; kernel_rfl)) ⟨by omega, by omega⟩ ?_
  rintro i ⟨hi0, hi⟩
  clear d1 d2 d3 d4
  have d1 := c2 i hi
  have d2 : i < a.length → (residL a b a.length).getD (i + 1) 0 = rs a b (i + 1) := fun hh => c2 (i + 1) hh
  have d4 := hv.ax_bound hv.ra i
  unfold axF at d4
  have d6 := axL_len a a b i
  have d5 := axL_succ a a b i
  unfold axF at d5
  repeat ((first | refine oP rfl ?_ | (refine kO 1 rfl ?_; refine rG (fun _ z => z) ?_) | refine oN ?_ | refine aS ?_ | refine aR ?_ | refine aC rfl ?_); (try conv => whnf))
  ((refine brp (fun h => ?_) (fun h => ?_)) <;> (try conv => whnf))
  · have hlt : i < a.length := by omega
    have d2 := d2 hlt
    have d3 := f1 i hlt
    rw [← d1, ← d2] at d4 d5
    repeat ((first | refine oP rfl ?_ | refine rP rfl (fun _ z => z) ?_ | (refine kO 1 rfl ?_; first | refine rAdd rfl rfl rfl (by omega) ?_ | refine rMul rfl rfl rfl (by omega) ?_) | (refine kO 3 rfl ?_; first | refine rLdr rfl rfl rfl rfl rfl ?_ | refine rLdb rfl rfl rfl rfl rfl rfl rfl ?_ | refine rLdi rfl rfl rfl rfl rfl rfl (by omega) ?_) | (refine kO 4 rfl ?_; refine rG (fun _ z => z) ?_) | (refine kO 5 rfl ?_; first | refine rIdN rfl rfl rfl rfl rfl rfl rfl (by omega) ?_ | refine rIdoN rfl rfl rfl rfl rfl rfl rfl rfl (by (dsimp only [SC.len]; omega)) ?_) | refine oN ?_ | refine aS ?_ | refine aR ?_ | refine aK ?_ | refine aB ?_ | refine dI (by kernel_rfl) ?_ | refine rG (fun _ z => ⟨(by (omega)), z⟩) ?_ | refine rG (fun _ z => ⟨(by (rfl)), (by (exact lnS (by omega))), z⟩) ?_); (try conv => whnf))
    rw [← d5]
    exact ⟨i + 1, ⟨by omega, hlt⟩, by omega, canon_auto (by kernel_rfl)⟩
  · repeat ((first | refine oP rfl ?_ | refine rP rfl (fun _ z => z) ?_ | (refine kO 1 rfl ?_; refine rAdd rfl rfl rfl (by omega) ?_) | refine oN ?_ | refine aR ?_ | refine aX ?_); (try conv => whnf))
    obtain rfl : i = a.length := by omega
    refine loop_round ?_
    repeat ((first | refine oP rfl ?_ | refine rP rfl (fun _ z => z) ?_ | (refine kO 1 rfl ?_; refine rG (fun _ z => z) ?_) | (refine kO 6 rfl ?_; refine rLen rfl rfl rfl rfl rfl rfl ?_) | refine oN ?_ | refine aS ?_ | refine aR ?_ | refine aK ?_ | refine aB ?_ | refine aC rfl ?_ | refine bT ?_ | refine aL ?_ | refine rG (fun _ z => ⟨(by (omega)), z⟩) ?_); (try conv => whnf))
    refine loop_round ?_
    have e1 := c2 0 (by omega)
    have e2 := c2 (0 + 1) (by omega)
    have e3 := f1 0 hpos
    have e4 := hv.ax_bound hv.rb 0
    unfold axF at e4
    rw [← e1, ← e2] at e4
    repeat ((first | refine oP rfl ?_ | refine rP rfl (fun _ z => z) ?_ | (refine kO 1 rfl ?_; first | refine rAdd rfl rfl rfl (by omega) ?_ | refine rMul rfl rfl rfl (by omega) ?_ | refine rG (fun _ z => z) ?_) | (refine kO 3 rfl ?_; first | refine rLdr rfl rfl rfl rfl rfl ?_ | refine rLdb rfl rfl rfl rfl rfl rfl rfl ?_ | refine rLdi rfl rfl rfl rfl rfl rfl (by omega) ?_) | (refine kO 4 rfl ?_; refine rG (fun _ z => z) ?_) | (refine kO 5 rfl ?_; first | refine rIdN rfl rfl rfl rfl rfl rfl rfl (by omega) ?_ | refine rIdoN rfl rfl rfl rfl rfl rfl rfl rfl (by (dsimp only [SC.len]; omega)) ?_) | refine oN ?_ | refine aS ?_ | refine aR ?_ | refine aK ?_ | refine aB ?_ | refine aC rfl ?_ | refine bPt (by omega) ?_ | refine dI (by kernel_rfl) ?_ | refine rG (fun _ z => ⟨(by (omega)), z⟩) ?_ | refine rG (fun _ z => ⟨(by (rfl)), (by (((try unfold SC.len); (try unfold SC.uni); (try unfold LIM); (try simp); (try omega); done))), z⟩) ?_); (try conv => whnf))
    refine loop_ind (ι := Nat) (fun i => 1 ≤ i ∧ i ≤ a.length) (fun i => a.length - i) (fun i => ⟨[(1, pP 0), (2, pP 1), (3, pP 2), (4, pO 3), (12, some (.val (true, [.st (.ints a), .st (.ints b)]))), (13, vI 1), (5, vI 1), (17, vL b), (18, vI b.length), (19, vI i)],
      [(0, some (.box 79 [.st (.ints a), .st (.ints b)])), (1, some (.box 54 [.nil, .nil])), (2, some (.box 54 [.own 4, .own 5])), (3, some (.row true 1 (.ints (residL a b a.length)))), (4, some (.row true 1 (.ints (axL a a b a.length)))), (5, some (.row true 1 (.ints (axL b a b i))))], 6⟩) 1 (canon_auto (by rw [e1, e2]; kernel_rfl)) ⟨by omega, by omega⟩ ?_
    clear d1 d2 d4 d5 d6 e1 e2 e3 e4 hi hi0
    rintro i ⟨hi0, hi⟩
    have d1 := c2 i hi
    have d2 : i < a.length → (residL a b a.length).getD (i + 1) 0 = rs a b (i + 1) := fun hh => c2 (i + 1) hh
    have d4 := hv.ax_bound hv.rb i
    unfold axF at d4
    have d6 := axL_len b a b i
    have d5 := axL_succ b a b i
    unfold axF at d5
    repeat ((first | refine oP rfl ?_ | (refine kO 1 rfl ?_; refine rG (fun _ z => z) ?_) | refine oN ?_ | refine aS ?_ | refine aR ?_ | refine aC rfl ?_); (try conv => whnf))
    ((refine brp (fun h => ?_) (fun h => ?_)) <;> (try conv => whnf))
    · have hlt : i < a.length := by omega
      have d2 := d2 hlt
      have d3 := f1 i hlt
      rw [← d1, ← d2] at d4 d5
      repeat ((first | refine oP rfl ?_ | refine rP rfl (fun _ z => z) ?_ | (refine kO 1 rfl ?_; first | refine rAdd rfl rfl rfl (by omega) ?_ | refine rMul rfl rfl rfl (by omega) ?_) | (refine kO 3 rfl ?_; first | refine rLdr rfl rfl rfl rfl rfl ?_ | refine rLdb rfl rfl rfl rfl rfl rfl rfl ?_ | refine rLdi rfl rfl rfl rfl rfl rfl (by omega) ?_) | (refine kO 4 rfl ?_; refine rG (fun _ z => z) ?_) | (refine kO 5 rfl ?_; first | refine rIdN rfl rfl rfl rfl rfl rfl rfl (by omega) ?_ | refine rIdoN rfl rfl rfl rfl rfl rfl rfl rfl (by (dsimp only [SC.len]; omega)) ?_) | refine oN ?_ | refine aS ?_ | refine aR ?_ | refine aK ?_ | refine aB ?_ | refine dI (by kernel_rfl) ?_ | refine rG (fun _ z => ⟨(by (omega)), z⟩) ?_ | refine rG (fun _ z => ⟨(by (rfl)), (by (exact lnS (by omega))), z⟩) ?_); (try conv => whnf))
      rw [← d5]
      exact ⟨i + 1, ⟨by omega, hlt⟩, by omega, canon_auto (by kernel_rfl)⟩
    · repeat ((first | refine oP rfl ?_ | refine rP rfl (fun _ z => z) ?_ | (refine kO 1 rfl ?_; refine rAdd rfl rfl rfl (by omega) ?_) | refine oN ?_ | refine aR ?_ | refine aX ?_); (try conv => whnf))
      obtain rfl : i = a.length := by omega
      refine loop_round ?_
      repeat ((first | refine oP rfl ?_ | (refine kO 1 rfl ?_; refine rG (fun _ z => z) ?_) | (refine kO 3 rfl ?_; refine rG (fun _ z => z) ?_) | (refine kO 4 rfl ?_; refine rG (fun _ z => z) ?_) | refine oN ?_ | refine aS ?_ | refine aR ?_ | refine aX ?_ | refine aT ?_ | refine aC rfl ?_ | refine bF ?_); (try conv => whnf))
      rfl
end Go.Proofs.Tryz

namespace Go.Proofs.Tryz
open Go.Fw Go.IntWalk Go.Plain
set_option maxRecDepth 100000
set_option maxHeartbeats 4000000
def thL (l : List Int) : List Int := sumsL l l.length
theorem thrusts_sat (a b : List Int) (hv : VW a b) : Sat cx.P cx.gl 55 [W2 a b] (.one (W2 (thL (axL a a b a.length)) (thL (axL b a b a.length)))) := by
  have hl := hv.len
  have hle := hv.le
  have hpos := hv.pos
  have la := axL_len a a b a.length
  have lb := axL_len b a b a.length
  have pa : ∀ k, -9000000 ≤ psum (axL a a b a.length) k ∧ psum (axL a a b a.length) k ≤ 9000000 := fun k => by
    have := psum_bound (B := 600000) (by omega) (axL_mem hv hv.ra a.length) k
    omega
  have pb : ∀ k, -9000000 ≤ psum (axL b a b a.length) k ∧ psum (axL b a b a.length) k ≤ 9000000 := fun k => by
    have := psum_bound (B := 600000) (by omega) (axL_mem hv hv.rb a.length) k
    omega
  have ax := axial_sat a b hv
  generalize axL a a b a.length = A at *
  generalize axL b a b a.length = B at *
  refine Sat_of_awp (fn := f55) cx_ok (by kernel_rfl) (by kernel_rfl) rfl (by kernel_rfl) (Nat.le_of_ble_eq_true rfl) ?_
  repeat ((first | refine oP rfl ?_ | refine rP rfl (fun _ z => z) ?_ | (refine kO 3 rfl ?_; refine rG (fun _ z => z) ?_) | (refine kO 7 rfl ?_; refine rG (fun _ z => ⟨_, ax, z⟩) ?_) | refine oN ?_ | refine aS ?_ | refine aR ?_ | refine aB ?_ | refine aL ?_); (try conv => whnf))
  refine loop_round ?_
  repeat ((first | refine oP rfl ?_ | refine rP rfl (fun _ z => z) ?_ | (refine kO 1 rfl ?_; refine rG (fun _ z => z) ?_) | (refine kO 4 rfl ?_; refine rG (fun _ z => z) ?_) | (refine kO 6 rfl ?_; refine rLen rfl rfl rfl rfl rfl rfl ?_) | refine oN ?_ | refine aS ?_ | refine aR ?_ | refine aK ?_ | refine aB ?_ | refine aC rfl ?_ | refine bT ?_ | refine aL ?_ | refine rG (fun _ z => ⟨(by (omega)), z⟩) ?_); (try conv => whnf))
  refine loop_ind (ι := Nat) (fun i => i ≤ A.length) (fun i => A.length - i) (fun i => ⟨[(1, pP 0), (2, pP 1), (3, pP 2), (9, some (.val (true, [.st (.ints A), .st (.ints B)]))), (10, vI 0), (4, vI 0), (17, vL A), (18, vI A.length), (19, vI i)],
    [(0, some (.box 79 [.st (.ints a), .st (.ints b)])), (1, some (.box 54 [.nil, .nil])), (2, some (.box 54 [.own 3, .nil])), (3, some (.row true 1 (.ints (sumsL A i))))], 4⟩) 0 (canon_auto (by kernel_rfl)) (by omega) ?_
  intro i hi
  have b1 := pa (i + 1)
  have b5 := sumsL_len A i
  have b6 := sumsL_getD (l := A) (Nat.le_refl i)
  have b8 := sumsL_succ A i
  have b7 : i < A.length → psum A (i + 1) = psum A i + A.getD i 0 := fun hh => psum_succ hh
  repeat ((first | refine oP rfl ?_ | (refine kO 1 rfl ?_; refine rG (fun _ z => z) ?_) | refine oN ?_ | refine aS ?_ | refine aR ?_ | refine aC rfl ?_); (try conv => whnf))
  ((refine brp (fun h => ?_) (fun h => ?_)) <;> (try conv => whnf))
  · have hlt : i < A.length := by omega
    have b7 := b7 hlt
    repeat ((first | refine oP rfl ?_ | refine rP rfl (fun _ z => z) ?_ | (refine kO 1 rfl ?_; refine rAdd rfl rfl rfl (by omega) ?_) | (refine kO 3 rfl ?_; first | refine rLdr rfl rfl rfl rfl rfl ?_ | refine rLdb rfl rfl rfl rfl rfl rfl rfl ?_ | refine rLdi rfl rfl rfl rfl rfl rfl (by omega) ?_) | (refine kO 4 rfl ?_; refine rG (fun _ z => z) ?_) | (refine kO 5 rfl ?_; first | refine rIdN rfl rfl rfl rfl rfl rfl rfl (by omega) ?_ | refine rIdoN rfl rfl rfl rfl rfl rfl rfl rfl (by (dsimp only [SC.len]; omega)) ?_) | refine oN ?_ | refine aS ?_ | refine aR ?_ | refine aK ?_ | refine aB ?_ | refine dI (by kernel_rfl) ?_ | refine rG (fun _ z => ⟨(by (omega)), z⟩) ?_ | refine rG (fun _ z => ⟨(by (rfl)), (by (exact lnS (by omega))), z⟩) ?_); (try conv => whnf))
    rw [b6, ← b7, ← b8]
    exact ⟨i + 1, hlt, by omega, canon_auto (by kernel_rfl)⟩
  · repeat ((first | refine oP rfl ?_ | refine rP rfl (fun _ z => z) ?_ | (refine kO 1 rfl ?_; refine rAdd rfl rfl rfl (by omega) ?_) | refine oN ?_ | refine aR ?_ | refine aX ?_); (try conv => whnf))
    obtain rfl : i = A.length := by omega
    refine loop_round ?_
    repeat ((first | refine oP rfl ?_ | refine rP rfl (fun _ z => z) ?_ | (refine kO 1 rfl ?_; refine rG (fun _ z => z) ?_) | (refine kO 4 rfl ?_; refine rG (fun _ z => z) ?_) | (refine kO 6 rfl ?_; refine rLen rfl rfl rfl rfl rfl rfl ?_) | refine oN ?_ | refine aS ?_ | refine aR ?_ | refine aK ?_ | refine aB ?_ | refine aC rfl ?_ | refine bT ?_ | refine aL ?_ | refine rG (fun _ z => ⟨(by (omega)), z⟩) ?_); (try conv => whnf))
    clear b1 b5 b6 b7 b8
    refine loop_ind (ι := Nat) (fun i => i ≤ B.length) (fun i => B.length - i) (fun i => ⟨[(1, pP 0), (2, pP 1), (3, pP 2), (9, some (.val (true, [.st (.ints A), .st (.ints B)]))), (10, vI 1), (4, vI 1), (17, vL B), (18, vI B.length), (19, vI i)],
      [(0, some (.box 79 [.st (.ints a), .st (.ints b)])), (1, some (.box 54 [.nil, .nil])), (2, some (.box 54 [.own 3, .own 4])), (3, some (.row true 1 (.ints (sumsL A A.length)))), (4, some (.row true 1 (.ints (sumsL B i))))], 5⟩) 0 (canon_auto (by kernel_rfl)) (by omega) ?_
    clear hi h
    intro i hi
    have b1 := pb (i + 1)
    have b5 := sumsL_len B i
    have b6 := sumsL_getD (l := B) (Nat.le_refl i)
    have b8 := sumsL_succ B i
    have b7 : i < B.length → psum B (i + 1) = psum B i + B.getD i 0 := fun hh => psum_succ hh
    repeat ((first | refine oP rfl ?_ | (refine kO 1 rfl ?_; refine rG (fun _ z => z) ?_) | refine oN ?_ | refine aS ?_ | refine aR ?_ | refine aC rfl ?_); (try conv => whnf))
    ((refine brp (fun h => ?_) (fun h => ?_)) <;> (try conv => whnf))
    · have hlt : i < B.length := by omega
      have b7 := b7 hlt
      repeat ((first | refine oP rfl ?_ | refine rP rfl (fun _ z => z) ?_ | (refine kO 1 rfl ?_; refine rAdd rfl rfl rfl (by omega) ?_) | (refine kO 3 rfl ?_; first | refine rLdr rfl rfl rfl rfl rfl ?_ | refine rLdb rfl rfl rfl rfl rfl rfl rfl ?_ | refine rLdi rfl rfl rfl rfl rfl rfl (by omega) ?_) | (refine kO 4 rfl ?_; refine rG (fun _ z => z) ?_) | (refine kO 5 rfl ?_; first | refine rIdN rfl rfl rfl rfl rfl rfl rfl (by omega) ?_ | refine rIdoN rfl rfl rfl rfl rfl rfl rfl rfl (by (dsimp only [SC.len]; omega)) ?_) | refine oN ?_ | refine aS ?_ | refine aR ?_ | refine aK ?_ | refine aB ?_ | refine dI (by kernel_rfl) ?_ | refine rG (fun _ z => ⟨(by (omega)), z⟩) ?_ | refine rG (fun _ z => ⟨(by (rfl)), (by (exact lnS (by omega))), z⟩) ?_); (try conv => whnf))
      rw [b6, ← b7, ← b8]
      exact ⟨i + 1, hlt, by omega, canon_auto (by kernel_rfl)⟩
    · repeat ((first | refine oP rfl ?_ | refine rP rfl (fun _ z => z) ?_ | (refine kO 1 rfl ?_; refine rAdd rfl rfl rfl (by omega) ?_) | refine oN ?_ | refine aR ?_ | refine aX ?_); (try conv => whnf))
      obtain rfl : i = B.length := by omega
      refine loop_round ?_
      repeat ((first | refine oP rfl ?_ | (refine kO 1 rfl ?_; refine rG (fun _ z => z) ?_) | (refine kO 3 rfl ?_; refine rG (fun _ z => z) ?_) | (refine kO 4 rfl ?_; refine rG (fun _ z => z) ?_) | refine oN ?_ | refine aS ?_ | refine aR ?_ | refine aX ?_ | refine aT ?_ | refine aC rfl ?_ | refine bF ?_); (try conv => whnf))
      rfl
theorem radial_sat (a b : List Int) (hv : VW a b) : Sat cx.P cx.gl 135 [W2 a b] (.one (W2 (rdIL a b a.length) (rdOL a b a.length))) := by
  have hl := hv.len
  have hle := hv.le
  have hpos := hv.pos
  refine Sat_of_awp (fn := f135) cx_ok (by kernel_rfl) (by kernel_rfl) rfl (by kernel_rfl) (Nat.le_of_ble_eq_true rfl) ?_
  repeat ((first | refine oP rfl ?_ | refine rP rfl (fun _ z => z) ?_ | (refine kO 3 rfl ?_; refine rLdb rfl rfl rfl rfl rfl rfl rfl ?_) | (refine kO 6 rfl ?_; refine rLen rfl rfl rfl rfl rfl rfl ?_) | refine oN ?_ | refine aS ?_ | refine aR ?_ | refine aB ?_ | refine aL ?_); (try conv => whnf))
  refine loop_round ?_
  have d1 := hv.rd_bound 0
  have d2 := hv.a_bound 0
  have d3 := hv.b_bound 0
  unfold rdI rdO at d1
  repeat ((first | refine oP rfl ?_ | refine rP rfl (fun _ z => z) ?_ | (refine kO 1 rfl ?_; first | refine rAdd rfl rfl rfl (by omega) ?_ | refine rSub rfl rfl rfl (by omega) ?_ | refine rMul rfl rfl rfl (by omega) ?_ | refine rG (fun _ z => z) ?_) | (refine kO 2 rfl ?_; refine rNeg rfl rfl (by omega) ?_) | (refine kO 3 rfl ?_; first | refine rLdr rfl rfl rfl rfl rfl ?_ | refine rLdb rfl rfl rfl rfl rfl rfl rfl ?_) | (refine kO 4 rfl ?_; refine rG (fun _ z => z) ?_) | (refine kO 5 rfl ?_; refine rIdN rfl rfl rfl rfl rfl rfl rfl (by omega) ?_) | refine oN ?_ | refine aS ?_ | refine aR ?_ | refine aK ?_ | refine aB ?_ | refine aC rfl ?_ | refine bPt (by omega) ?_ | refine rG (fun _ z => ⟨(by (omega)), z⟩) ?_ | refine rG (fun _ z => ⟨(by (rfl)), (by (((try unfold SC.len); (try unfold SC.uni); (try unfold LIM); (try simp); (try omega); done))), z⟩) ?_); (try conv => whnf))
  refine loop_ind (ι := Nat) (fun i => 1 ≤ i ∧ i ≤ a.length) (fun i => a.length - i) (fun i => ⟨[(1, pP 0), (2, pP 1), (3, pP 2), (9, vL a), (10, vI a.length), (11, vI i)],
    [(0, some (.box 79 [.st (.ints a), .st (.ints b)])), (1, some (.box 54 [.nil, .nil])), (2, some (.box 54 [.own 3, .own 4])), (3, some (.row true 1 (.ints (rdIL a b i)))), (4, some (.row true 1 (.ints (rdOL a b i))))], 5⟩) 1 (canon_auto (by kernel_rfl)) ⟨by omega, by omega⟩ ?_
  clear d1 d2 d3
  rintro i ⟨hi0, hi⟩
  have d1 := hv.rd_bound i
  have d2 := hv.a_bound i
  have d3 := hv.b_bound i
  have d4 := rdIL_len a b i
  have d5 := rdOL_len a b i
  have d6 := rdIL_succ a b i
  have d7 := rdOL_succ a b i
  unfold rdI rdO at d1
  unfold rdI at d6
  unfold rdO at d7
  repeat ((first | refine oP rfl ?_ | (refine kO 1 rfl ?_; refine rG (fun _ z => z) ?_) | refine oN ?_ | refine aS ?_ | refine aR ?_ | refine aC rfl ?_); (try conv => whnf))
  ((refine brp (fun h => ?_) (fun h => ?_)) <;> (try conv => whnf))
  · have hlt : i < a.length := by omega
    repeat ((first | refine oP rfl ?_ | refine rP rfl (fun _ z => z) ?_ | (refine kO 1 rfl ?_; first | refine rAdd rfl rfl rfl (by omega) ?_ | refine rSub rfl rfl rfl (by omega) ?_ | refine rMul rfl rfl rfl (by omega) ?_) | (refine kO 2 rfl ?_; refine rNeg rfl rfl (by omega) ?_) | (refine kO 3 rfl ?_; first | refine rLdr rfl rfl rfl rfl rfl ?_ | refine rLdb rfl rfl rfl rfl rfl rfl rfl ?_) | (refine kO 4 rfl ?_; refine rG (fun _ z => z) ?_) | (refine kO 5 rfl ?_; refine rIdN rfl rfl rfl rfl rfl rfl rfl (by omega) ?_) | refine oN ?_ | refine aS ?_ | refine aR ?_ | refine aK ?_ | refine aB ?_ | refine rG (fun _ z => ⟨(by (omega)), z⟩) ?_ | refine rG (fun _ z => ⟨(by (rfl)), (by (exact lnS (by omega))), z⟩) ?_); (try conv => whnf))
    rw [← d6, ← d7]
    exact ⟨i + 1, ⟨by omega, hlt⟩, by omega, canon_auto (by kernel_rfl)⟩
  · repeat ((first | refine oP rfl ?_ | (refine kO 3 rfl ?_; refine rG (fun _ z => z) ?_) | (refine kO 4 rfl ?_; refine rG (fun _ z => z) ?_) | refine oN ?_ | refine aS ?_ | refine aR ?_ | refine aX ?_ | refine aT ?_); (try conv => whnf))
    obtain rfl : i = a.length := by omega
    rfl
/-- A method that computes forces of valid windows. -/
theorem forces_sat (a b : List Int) (g : FuncId) (r : List Int × List Int) (ha : a.length ≤ maxLen) (hb : b.length ≤ maxLen) (hg : windowErr a b = 0 → Sat cx.P cx.gl g [W2 a b] (.one (W2 r.1 r.2))) :
    Sat cx.P cx.gl 54 [W2 a b, (false, [.fn g [] []])] (.tup (if windowErr a b = 0 then [W2 r.1 r.2, I 0] else [W2 [] [], I (windowErr a b)])) := by
  refine Sat_of_awp (fn := f54) cx_ok (by kernel_rfl) (by kernel_rfl) rfl (by kernel_rfl) (Nat.le_of_ble_eq_true rfl) ?_
  repeat ((first | refine oP rfl ?_ | refine rP rfl (fun _ z => z) ?_ | (refine kO 1 rfl ?_; refine rG (fun _ z => z) ?_) | (refine kO 3 rfl ?_; refine rG (fun _ z => z) ?_) | (refine kO 4 rfl ?_; refine rG (fun _ z => z) ?_) | (refine kO 7 rfl ?_; refine rG (fun _ z => ⟨_, open_sat a b ha hb, z⟩) ?_) | refine oN ?_ | refine aS ?_ | refine aR ?_ | refine aC rfl ?_); (try conv => whnf))
  ((refine brp (fun h => ?_) (fun h => ?_)) <;> (try conv => whnf))
  · repeat ((first | refine oP rfl ?_ | refine rP rfl (fun _ z => z) ?_ | (refine kO 4 rfl ?_; refine rG (fun _ z => z) ?_) | refine oN ?_ | refine aS ?_ | refine aR ?_ | refine aT ?_); (try conv => whnf))
    rw [if_neg h]; rfl
  · have h0 : windowErr a b = 0 := by omega
    repeat ((first | refine oP rfl ?_ | refine rP rfl (fun _ z => z) ?_ | (refine kO 3 rfl ?_; refine rG (fun _ z => z) ?_) | (refine kO 4 rfl ?_; refine rG (fun _ z => z) ?_) | (refine kO 7 rfl ?_; refine rG (fun _ z => ⟨_, hg h0, z⟩) ?_) | refine oN ?_ | refine aS ?_ | refine aR ?_ | refine aK ?_ | refine aT ?_); (try conv => whnf))
    rw [if_pos h0]; rfl
theorem thrustsOf_sat (a b : List Int) (ha : a.length ≤ maxLen) (hb : b.length ≤ maxLen) : Sat cx.P cx.gl 20 [W2 a b] (.tup (if windowErr a b = 0 then [W2 (thL (axL a a b a.length)) (thL (axL b a b a.length)), I 0] else [W2 [] [], I (windowErr a b)])) := by
  have hf := forces_sat a b _ (thL (axL a a b a.length), thL (axL b a b a.length)) ha hb fun h => thrusts_sat a b (windowErr_zero.1 h)
  refine Sat_of_awp (fn := f20) cx_ok (by kernel_rfl) (by kernel_rfl) rfl (by kernel_rfl) (Nat.le_of_ble_eq_true rfl) ?_
  by_cases h0 : windowErr a b = 0
  · rw [if_pos h0] at hf ⊢
    repeat ((first | refine oP rfl ?_ | refine rP rfl (fun _ z => z) ?_ | (refine kO 3 rfl ?_; refine rG (fun _ z => z) ?_) | (refine kO 4 rfl ?_; refine rG (fun _ z => z) ?_) | (refine kO 7 rfl ?_; refine rG (fun _ z => ⟨_, hf, z⟩) ?_) | refine oN ?_ | refine aS ?_ | refine aR ?_ | refine aT ?_); (try conv => whnf))
    rfl
  · rw [if_neg h0] at hf ⊢
    repeat ((first | refine oP rfl ?_ | refine rP rfl (fun _ z => z) ?_ | (refine kO 3 rfl ?_; refine rG (fun _ z => z) ?_) | (refine kO 4 rfl ?_; refine rG (fun _ z => z) ?_) | (refine kO 7 rfl ?_; refine rG (fun _ z => ⟨_, hf, z⟩) ?_) | refine oN ?_ | refine aS ?_ | refine aR ?_ | refine aT ?_); (try conv => whnf))
    rfl
end Go.Proofs.Tryz

namespace Go.Proofs.Tryz
open Go.Fw Go.IntWalk Go.Plain
set_option maxRecDepth 100000
set_option maxHeartbeats 4000000
theorem around_sat (n u : Int) (h1 : -4611686018427387904 ≤ n ∧ n ≤ 4611686018427387903) (h2 : -4611686018427387904 ≤ u ∧ u ≤ 4611686018427387903) : Sat cx.P cx.gl 60 [I n, I u] (.one (F2 (n - u) (n + u))) := by
  refine Sat_of_awp (fn := f60) cx_ok (by kernel_rfl) (by kernel_rfl) rfl (by kernel_rfl) (Nat.le_of_ble_eq_true rfl) ?_
  repeat' ((first | refine oP rfl ?_ | refine rP rfl (fun _ z => z) ?_ | (refine kO 1 rfl ?_; first | refine rAdd rfl rfl rfl (by omega) ?_ | refine rSub rfl rfl rfl (by omega) ?_) | (refine kO 4 rfl ?_; refine rG (fun _ z => z) ?_) | refine oN ?_ | refine aS ?_ | refine aR ?_ | refine aT ?_) <;> (try conv => whnf))
  rfl
theorem min4_sat (p q r s : Int) : Sat cx.P cx.gl 88 [L [p, q, r, s]] (.one (I (mn4 p q r s))) := by
  refine Sat_of_awp (fn := f88) cx_ok (by kernel_rfl) (by kernel_rfl) rfl (by kernel_rfl) (Nat.le_of_ble_eq_true rfl) ?_
  repeat ((first | refine oP rfl ?_ | refine rP rfl (fun _ z => z) ?_ | (refine kO 1 rfl ?_; refine rG (fun _ z => z) ?_) | (refine kO 3 rfl ?_; refine rLdr rfl rfl rfl rfl rfl ?_) | (refine kO 5 rfl ?_; refine rIdN rfl rfl rfl rfl rfl rfl rfl (by exact Nat.le_of_ble_eq_true rfl) ?_) | (refine kO 6 rfl ?_; refine rLen rfl rfl rfl rfl rfl rfl ?_) | refine oN ?_ | refine aS ?_ | refine aR ?_ | refine aK ?_ | refine aB ?_ | refine aC rfl ?_ | refine bF ?_ | refine aL ?_); (try conv => whnf))
  refine loop_round ?_
  repeat ((first | refine oP rfl ?_ | refine rP rfl (fun _ z => z) ?_ | (refine kO 1 rfl ?_; first | refine rAdd rfl rfl rfl (by omega) ?_ | refine rG (fun _ z => z) ?_) | (refine kO 3 rfl ?_; refine rLdr rfl rfl rfl rfl rfl ?_) | (refine kO 5 rfl ?_; refine rIdN rfl rfl rfl rfl rfl rfl rfl (by exact Nat.le_of_ble_eq_true rfl) ?_) | (refine kO 6 rfl ?_; first | refine rLen rfl rfl rfl rfl rfl rfl ?_ | refine rG (fun _ z => z) ?_) | refine oN ?_ | refine aS ?_ | refine aR ?_ | refine aK ?_ | refine aB ?_ | refine aC rfl ?_ | refine bT ?_); (try conv => whnf))
  refine loop_round ?_
  repeat ((first | refine oP rfl ?_ | refine rP rfl (fun _ z => z) ?_ | (refine kO 1 rfl ?_; first | refine rAdd rfl rfl rfl (by omega) ?_ | refine rG (fun _ z => z) ?_) | (refine kO 3 rfl ?_; refine rLdr rfl rfl rfl rfl rfl ?_) | (refine kO 5 rfl ?_; refine rIdN rfl rfl rfl rfl rfl rfl rfl (by exact Nat.le_of_ble_eq_true rfl) ?_) | (refine kO 6 rfl ?_; first | refine rLen rfl rfl rfl rfl rfl rfl ?_ | refine rG (fun _ z => z) ?_) | refine oN ?_ | refine aS ?_ | refine aR ?_ | refine aK ?_ | refine aB ?_ | refine aC rfl ?_ | refine bT ?_); (try conv => whnf))
  refine loop_round ?_
  repeat ((first | refine oP rfl ?_ | refine rP rfl (fun _ z => z) ?_ | (refine kO 1 rfl ?_; first | refine rAdd rfl rfl rfl (by omega) ?_ | refine rG (fun _ z => z) ?_) | (refine kO 3 rfl ?_; refine rLdr rfl rfl rfl rfl rfl ?_) | (refine kO 5 rfl ?_; refine rIdN rfl rfl rfl rfl rfl rfl rfl (by exact Nat.le_of_ble_eq_true rfl) ?_) | (refine kO 6 rfl ?_; first | refine rLen rfl rfl rfl rfl rfl rfl ?_ | refine rG (fun _ z => z) ?_) | refine oN ?_ | refine aS ?_ | refine aR ?_ | refine aK ?_ | refine aB ?_ | refine aC rfl ?_ | refine bT ?_); (try conv => whnf))
  refine loop_round ?_
  repeat ((first | refine oP rfl ?_ | refine rP rfl (fun _ z => z) ?_ | (refine kO 1 rfl ?_; refine rG (fun _ z => z) ?_) | (refine kO 6 rfl ?_; refine rLen rfl rfl rfl rfl rfl rfl ?_) | refine oN ?_ | refine aS ?_ | refine aR ?_ | refine aX ?_ | refine aT ?_ | refine aC rfl ?_ | refine bF ?_); (try conv => whnf))
  rfl
theorem max4_sat (p q r s : Int) : Sat cx.P cx.gl 89 [L [p, q, r, s]] (.one (I (mx4 p q r s))) := by
  refine Sat_of_awp (fn := f89) cx_ok (by kernel_rfl) (by kernel_rfl) rfl (by kernel_rfl) (Nat.le_of_ble_eq_true rfl) ?_
  repeat ((first | refine oP rfl ?_ | refine rP rfl (fun _ z => z) ?_ | (refine kO 1 rfl ?_; refine rG (fun _ z => z) ?_) | (refine kO 3 rfl ?_; refine rLdr rfl rfl rfl rfl rfl ?_) | (refine kO 5 rfl ?_; refine rIdN rfl rfl rfl rfl rfl rfl rfl (by exact Nat.le_of_ble_eq_true rfl) ?_) | (refine kO 6 rfl ?_; refine rLen rfl rfl rfl rfl rfl rfl ?_) | refine oN ?_ | refine aS ?_ | refine aR ?_ | refine aK ?_ | refine aB ?_ | refine aC rfl ?_ | refine bF ?_ | refine aL ?_); (try conv => whnf))
  refine loop_round ?_
  repeat ((first | refine oP rfl ?_ | refine rP rfl (fun _ z => z) ?_ | (refine kO 1 rfl ?_; first | refine rAdd rfl rfl rfl (by omega) ?_ | refine rG (fun _ z => z) ?_) | (refine kO 3 rfl ?_; refine rLdr rfl rfl rfl rfl rfl ?_) | (refine kO 5 rfl ?_; refine rIdN rfl rfl rfl rfl rfl rfl rfl (by exact Nat.le_of_ble_eq_true rfl) ?_) | (refine kO 6 rfl ?_; first | refine rLen rfl rfl rfl rfl rfl rfl ?_ | refine rG (fun _ z => z) ?_) | refine oN ?_ | refine aS ?_ | refine aR ?_ | refine aK ?_ | refine aB ?_ | refine aC rfl ?_ | refine bT ?_); (try conv => whnf))
  refine loop_round ?_
  repeat ((first | refine oP rfl ?_ | refine rP rfl (fun _ z => z) ?_ | (refine kO 1 rfl ?_; first | refine rAdd rfl rfl rfl (by omega) ?_ | refine rG (fun _ z => z) ?_) | (refine kO 3 rfl ?_; refine rLdr rfl rfl rfl rfl rfl ?_) | (refine kO 5 rfl ?_; refine rIdN rfl rfl rfl rfl rfl rfl rfl (by exact Nat.le_of_ble_eq_true rfl) ?_) | (refine kO 6 rfl ?_; first | refine rLen rfl rfl rfl rfl rfl rfl ?_ | refine rG (fun _ z => z) ?_) | refine oN ?_ | refine aS ?_ | refine aR ?_ | refine aK ?_ | refine aB ?_ | refine aC rfl ?_ | refine bT ?_); (try conv => whnf))
  refine loop_round ?_
  repeat ((first | refine oP rfl ?_ | refine rP rfl (fun _ z => z) ?_ | (refine kO 1 rfl ?_; first | refine rAdd rfl rfl rfl (by omega) ?_ | refine rG (fun _ z => z) ?_) | (refine kO 3 rfl ?_; refine rLdr rfl rfl rfl rfl rfl ?_) | (refine kO 5 rfl ?_; refine rIdN rfl rfl rfl rfl rfl rfl rfl (by exact Nat.le_of_ble_eq_true rfl) ?_) | (refine kO 6 rfl ?_; first | refine rLen rfl rfl rfl rfl rfl rfl ?_ | refine rG (fun _ z => z) ?_) | refine oN ?_ | refine aS ?_ | refine aR ?_ | refine aK ?_ | refine aB ?_ | refine aC rfl ?_ | refine bT ?_); (try conv => whnf))
  refine loop_round ?_
  repeat ((first | refine oP rfl ?_ | refine rP rfl (fun _ z => z) ?_ | (refine kO 1 rfl ?_; refine rG (fun _ z => z) ?_) | (refine kO 6 rfl ?_; refine rLen rfl rfl rfl rfl rfl rfl ?_) | refine oN ?_ | refine aS ?_ | refine aR ?_ | refine aX ?_ | refine aT ?_ | refine aC rfl ?_ | refine bF ?_); (try conv => whnf))
  rfl
/-- A product that stays within an int. -/
def okM (x : Int) : Prop := -1000000000 ≤ x ∧ x ≤ 1000000000
theorem product_sat (a b c d : Int) (h1 : okM (a * c)) (h2 : okM (a * d)) (h3 : okM (b * c)) (h4 : okM (b * d)) : Sat cx.P cx.gl 61 [F2 a b, F2 c d] (.one (F2 (prLo a b c d) (prHi a b c d))) := by
  unfold okM at *
  refine Sat_of_awp (fn := f61) cx_ok (by kernel_rfl) (by kernel_rfl) rfl (by kernel_rfl) (Nat.le_of_ble_eq_true rfl) ?_
  refine aS ?_; (refine aR ?_; conv => whnf); repeat ((first | refine oP rfl ?_ | refine rP rfl (fun _ z => z) ?_ | refine oN ?_); (try conv => whnf))
  refine awp_seqw ?_; (refine aR ?_; conv => whnf); repeat ((first | refine oP rfl ?_ | refine rP rfl (fun _ z => z) ?_ | (refine kO 1 rfl ?_; refine rMul rfl rfl rfl (by omega) ?_) | (refine kO 3 rfl ?_; refine rLdb rfl rfl rfl rfl rfl rfl rfl ?_) | (refine kO 4 rfl ?_; refine rG (fun _ z => z) ?_) | refine oN ?_); (try conv => whnf))
  refine ⟨_, seal_sub cx 24 rfl rfl, ?_⟩
  repeat ((first | refine oP rfl ?_ | refine rP rfl (fun _ z => z) ?_ | (refine kO 4 rfl ?_; refine rG (fun _ z => z) ?_) | (refine kO 7 rfl ?_; first | refine rG (fun _ z => ⟨_, min4_sat _ _ _ _, z⟩) ?_ | refine rG (fun _ z => ⟨_, max4_sat _ _ _ _, z⟩) ?_) | (refine kO 8 rfl ?_; refine rG (fun _ z => z) ?_) | refine oN ?_ | refine aS ?_ | refine aR ?_ | refine aT ?_ | refine dI (by kernel_rfl) ?_); (try conv => whnf))
  rfl
end Go.Proofs.Tryz

namespace Go.Proofs.Tryz
open Go.Fw Go.IntWalk Go.Plain
set_option maxRecDepth 100000
set_option maxHeartbeats 8000000
/-- The error of a bound. -/
def tbErr (a b : List Int) (e : Int) : Int := if windowErr a b ≠ 0 then windowErr a b else if 0 ≤ e ∧ e ≤ 20 then 0 else 2
/-- What one level adds, as the text spells it. -/
theorem level_facts {t a b : List Int} {e : Int} (hv : VW a b) (ht : ∀ n ∈ t, -100 ≤ n ∧ n ≤ 100) (he : 0 ≤ e ∧ e ≤ 20) {k : Nat} (hk : k < a.length) {X Y : Int} (hX : X = rs a b k) (hY : Y = rs a b (k + 1)) :
    (-100 ≤ t.getD k 0 ∧ t.getD k 0 ≤ 100) ∧ (-3000 ≤ X ∧ X ≤ 3000) ∧ (-3000 ≤ Y ∧ Y ≤ 3000) ∧ (0 ≤ 2 * e * (2 * (k : Int) + 1) ∧ 2 * e * (2 * (k : Int) + 1) ≤ 1320) ∧
    (okM ((t.getD k 0 - e) * (X + Y - 2 * e * (2 * (k : Int) + 1))) ∧ okM ((t.getD k 0 - e) * (X + Y + 2 * e * (2 * (k : Int) + 1))) ∧ okM ((t.getD k 0 + e) * (X + Y - 2 * e * (2 * (k : Int) + 1))) ∧ okM ((t.getD k 0 + e) * (X + Y + 2 * e * (2 * (k : Int) + 1)))) ∧
    (-20000000 ≤ sumN (bLo t a b e) k + prLo (t.getD k 0 - e) (t.getD k 0 + e) (X + Y - 2 * e * (2 * (k : Int) + 1)) (X + Y + 2 * e * (2 * (k : Int) + 1)) ∧ sumN (bLo t a b e) k + prLo (t.getD k 0 - e) (t.getD k 0 + e) (X + Y - 2 * e * (2 * (k : Int) + 1)) (X + Y + 2 * e * (2 * (k : Int) + 1)) ≤ 20000000) ∧
    (-20000000 ≤ sumN (bHi t a b e) k + prHi (t.getD k 0 - e) (t.getD k 0 + e) (X + Y - 2 * e * (2 * (k : Int) + 1)) (X + Y + 2 * e * (2 * (k : Int) + 1)) ∧ sumN (bHi t a b e) k + prHi (t.getD k 0 - e) (t.getD k 0 + e) (X + Y - 2 * e * (2 * (k : Int) + 1)) (X + Y + 2 * e * (2 * (k : Int) + 1)) ≤ 20000000) := by
  have hle := hv.le
  subst hX; subst hY
  have h1 := hv.t_bound ht k
  have h2 := hv.rs_bound k
  have h3 := hv.rs_bound (k + 1)
  have h4 := tol_bound he (show k ≤ 16 by omega)
  obtain ⟨p1, p2, p3, p4⟩ := end_bound h1 he (show -6000 ≤ rs a b k + rs a b (k + 1) ∧ rs a b k + rs a b (k + 1) ≤ 6000 by omega) h4
  obtain ⟨s1, s2⟩ := hv.bs_bound ht he (show k + 1 ≤ 16 by omega)
  exact ⟨h1, h2, h3, h4, ⟨⟨by omega, by omega⟩, ⟨by omega, by omega⟩, ⟨by omega, by omega⟩, ⟨by omega, by omega⟩⟩, s1, s2⟩
theorem thrustBound_sat (a b : List Int) (e : Int) (ha : a.length ≤ maxLen) (hb : b.length ≤ maxLen) : Sat cx.P cx.gl 22 [W2 a b, I e] (.tup (if tbErr a b e = 0 then [F2 (bOut a a b e a.length) (bOut b a b e a.length), I 0] else [F2 0 0, I (tbErr a b e)])) := by
  have hfs : fs [windowErr a b, if 0 ≤ e ∧ e ≤ 20 then 0 else 2] = tbErr a b e := by
    unfold tbErr; by_cases h : windowErr a b = 0 <;> simp [fs, h]
  refine Sat_of_awp (fn := f22) cx_ok (by kernel_rfl) (by kernel_rfl) rfl (by kernel_rfl) (Nat.le_of_ble_eq_true rfl) ?_
  repeat ((first | refine oP rfl ?_ | refine rP rfl (fun _ z => z) ?_ | (refine kO 1 rfl ?_; refine rG (fun _ z => z) ?_) | (refine kO 3 rfl ?_; refine rG (fun _ z => z) ?_) | (refine kO 4 rfl ?_; refine rG (fun _ z => z) ?_) | (refine kO 7 rfl ?_; first | refine rG (fun _ z => ⟨_, open_sat a b ha hb, z⟩) ?_ | refine rG (fun _ z => ⟨_, within52_sat _ _ _, z⟩) ?_ | refine rG (fun _ z => ⟨_, unless_p _, z⟩) ?_ | refine rG (fun _ z => ⟨_, first_fs _ (Nat.le_of_ble_eq_true rfl), z⟩) ?_) | refine oN ?_ | refine aS ?_ | refine aR ?_ | refine aC rfl ?_); (try conv => whnf))
  rw [hfs]
  ((refine brp (fun h => ?_) (fun h => ?_)) <;> (try conv => whnf))
  · repeat ((first | refine oP rfl ?_ | refine rP rfl (fun _ z => z) ?_ | (refine kO 4 rfl ?_; refine rG (fun _ z => z) ?_) | refine oN ?_ | refine aS ?_ | refine aR ?_ | refine aT ?_); (try conv => whnf))
    rw [if_neg h]; rfl
  · have h0 : tbErr a b e = 0 := by omega
    rw [if_pos h0]
    have hw : windowErr a b = 0 := by
      unfold tbErr at h0; split at h0 <;> omega
    have he : 0 ≤ e ∧ e ≤ 20 := by
      unfold tbErr at h0; rw [if_neg (by omega)] at h0; split at h0 <;> omega
    have hv := windowErr_zero.1 hw
    have hl := hv.len
    have hle := hv.le
    have hpos := hv.pos
    have c1 := residL_len a b a.length
    have c2 : ∀ i, i ≤ a.length → (residL a b a.length).getD i 0 = rs a b i := fun i hi => residL_getD hi
    clear hfs h0 hw h
    repeat ((first | refine oP rfl ?_ | refine rP rfl (fun _ z => z) ?_ | (refine kO 3 rfl ?_; refine rG (fun _ z => z) ?_) | (refine kO 7 rfl ?_; first | refine rG (fun _ z => ⟨_, residuals_sat a b hv, z⟩) ?_ | refine rG (fun _ z => ⟨_, both_sat a b, z⟩) ?_) | refine oN ?_ | refine aS ?_ | refine aR ?_ | refine aK ?_ | refine aB ?_ | refine aL ?_); (try conv => whnf))
    refine loop_round ?_
    repeat ((first | refine oP rfl ?_ | refine rP rfl (fun _ z => z) ?_ | (refine kO 1 rfl ?_; refine rG (fun _ z => z) ?_) | (refine kO 6 rfl ?_; refine rLen rfl rfl rfl rfl rfl rfl ?_) | refine oN ?_ | refine aS ?_ | refine aR ?_ | refine aK ?_ | refine aB ?_ | refine aC rfl ?_ | refine bT ?_ | refine aL ?_ | refine rG (fun _ z => ⟨(by (omega)), z⟩) ?_); (try conv => whnf))
    refine loop_ind (ι := Nat) (fun i => i ≤ a.length) (fun i => a.length - i) (fun k => ⟨[(1, vI e), (4, pP 0), (8, pP 1), (9, pO 2), (10, vI 0), (12, pP 3), (35, some (.val (true, [.st (.ints a), .st (.ints b)]))), (36, vI 0), (40, vL a), (41, vI a.length), (42, vI k)],
      [(0, some (.box 58 [.st (J 0), .st (J 0)])), (1, some (.box 58 [.st (J (bOut a a b e k)), .st (J 0)])), (2, some (.row true 1 (.ints (residL a b a.length)))), (3, some (.box 25 [.st (J (sumN (bLo a a b e) k)), .st (J (sumN (bHi a a b e) k))]))], 4⟩) 0 (canon_auto (by kernel_rfl)) (by omega) ?_
    intro k hk
    repeat ((first | refine oP rfl ?_ | (refine kO 1 rfl ?_; refine rG (fun _ z => z) ?_) | refine oN ?_ | refine aS ?_ | refine aR ?_ | refine aC rfl ?_); (try conv => whnf))
    ((refine brp (fun h => ?_) (fun h => ?_)) <;> (try conv => whnf))
    · have hlt : k < a.length := by omega
      obtain ⟨f1, f2, f3, f4, ⟨p1, p2, p3, p4⟩, s1, s2⟩ := level_facts hv hv.ra he hlt (c2 k hk) (c2 (k + 1) hlt)
      repeat ((first | refine oP rfl ?_ | refine rP rfl (fun _ z => z) ?_ | (refine kO 1 rfl ?_; first | refine rAdd rfl rfl rfl (by omega) ?_ | refine rMul rfl rfl rfl (by omega) ?_) | (refine kO 3 rfl ?_; first | refine rLdr rfl rfl rfl rfl rfl ?_ | refine rLdb rfl rfl rfl rfl rfl rfl rfl ?_ | refine rLdi rfl rfl rfl rfl rfl rfl (by omega) ?_ | refine rG (fun _ z => z) ?_) | (refine kO 4 rfl ?_; refine rG (fun _ z => z) ?_) | (refine kO 5 rfl ?_; first | refine rIdN rfl rfl rfl rfl rfl rfl rfl (by omega) ?_ | refine rIdoN rfl rfl rfl rfl rfl rfl rfl rfl (by (dsimp only [SC.len]; omega)) ?_) | (refine kO 7 rfl ?_; first | refine rG (fun _ z => ⟨_, around_sat _ _ (by omega) (by omega), z⟩) ?_ | refine rG (fun _ z => ⟨_, product_sat _ _ _ _ p1 p2 p3 p4, z⟩) ?_ | refine rG (fun _ z => ⟨_, size73_sat _ (by omega) (by omega), z⟩) ?_) | (refine kO 6 rfl ?_; refine rG (fun _ z => z) ?_) | refine oN ?_ | refine aS ?_ | refine aR ?_ | refine aK ?_ | refine aB ?_ | refine dI (by kernel_rfl) ?_ | refine rG (fun _ z => ⟨(by (omega)), z⟩) ?_); (try conv => whnf))
      rw [c2 k hk, c2 (k + 1) hlt]
      exact ⟨k + 1, hlt, by omega, canon_auto (by kernel_rfl)⟩
    · repeat ((first | refine oP rfl ?_ | refine rP rfl (fun _ z => z) ?_ | (refine kO 1 rfl ?_; refine rAdd rfl rfl rfl (by omega) ?_) | refine oN ?_ | refine aR ?_ | refine aX ?_); (try conv => whnf))
      obtain rfl : k = a.length := by omega
      refine loop_round ?_
      repeat ((first | refine oP rfl ?_ | refine rP rfl (fun _ z => z) ?_ | (refine kO 1 rfl ?_; refine rG (fun _ z => z) ?_) | (refine kO 6 rfl ?_; refine rLen rfl rfl rfl rfl rfl rfl ?_) | refine oN ?_ | refine aS ?_ | refine aR ?_ | refine aK ?_ | refine aB ?_ | refine aC rfl ?_ | refine bT ?_ | refine aL ?_ | refine rG (fun _ z => ⟨(by (omega)), z⟩) ?_); (try conv => whnf))
      refine loop_ind (ι := Nat) (fun i => i ≤ a.length) (fun i => a.length - i) (fun k => ⟨[(1, vI e), (4, pP 0), (8, pP 1), (9, pO 2), (10, vI 1), (12, pP 3), (35, some (.val (true, [.st (.ints a), .st (.ints b)]))), (36, vI 1), (40, vL b), (41, vI b.length), (42, vI k)],
        [(0, some (.box 58 [.st (J 0), .st (J 0)])), (1, some (.box 58 [.st (J (bOut a a b e a.length)), .st (J (bOut b a b e k))])), (2, some (.row true 1 (.ints (residL a b a.length)))), (3, some (.box 25 [.st (J (sumN (bLo b a b e) k)), .st (J (sumN (bHi b a b e) k))]))], 4⟩) 0 (canon_auto (by kernel_rfl)) (by omega) ?_
      clear hk h
      intro k hk
      repeat ((first | refine oP rfl ?_ | (refine kO 1 rfl ?_; refine rG (fun _ z => z) ?_) | refine oN ?_ | refine aS ?_ | refine aR ?_ | refine aC rfl ?_); (try conv => whnf))
      ((refine brp (fun h => ?_) (fun h => ?_)) <;> (try conv => whnf))
      · have hlt : k < a.length := by omega
        obtain ⟨f1, f2, f3, f4, ⟨p1, p2, p3, p4⟩, s1, s2⟩ := level_facts hv hv.rb he hlt (c2 k hk) (c2 (k + 1) hlt)
        repeat ((first | refine oP rfl ?_ | refine rP rfl (fun _ z => z) ?_ | (refine kO 1 rfl ?_; first | refine rAdd rfl rfl rfl (by omega) ?_ | refine rMul rfl rfl rfl (by omega) ?_) | (refine kO 3 rfl ?_; first | refine rLdr rfl rfl rfl rfl rfl ?_ | refine rLdb rfl rfl rfl rfl rfl rfl rfl ?_ | refine rLdi rfl rfl rfl rfl rfl rfl (by omega) ?_ | refine rG (fun _ z => z) ?_) | (refine kO 4 rfl ?_; refine rG (fun _ z => z) ?_) | (refine kO 5 rfl ?_; first | refine rIdN rfl rfl rfl rfl rfl rfl rfl (by omega) ?_ | refine rIdoN rfl rfl rfl rfl rfl rfl rfl rfl (by (dsimp only [SC.len]; omega)) ?_) | (refine kO 7 rfl ?_; first | refine rG (fun _ z => ⟨_, around_sat _ _ (by omega) (by omega), z⟩) ?_ | refine rG (fun _ z => ⟨_, product_sat _ _ _ _ p1 p2 p3 p4, z⟩) ?_ | refine rG (fun _ z => ⟨_, size73_sat _ (by omega) (by omega), z⟩) ?_) | (refine kO 6 rfl ?_; refine rG (fun _ z => z) ?_) | refine oN ?_ | refine aS ?_ | refine aR ?_ | refine aK ?_ | refine aB ?_ | refine dI (by kernel_rfl) ?_ | refine rG (fun _ z => ⟨(by (omega)), z⟩) ?_); (try conv => whnf))
        rw [c2 k hk, c2 (k + 1) hlt]
        exact ⟨k + 1, hlt, by omega, canon_auto (by kernel_rfl)⟩
      · repeat ((first | refine oP rfl ?_ | refine rP rfl (fun _ z => z) ?_ | (refine kO 1 rfl ?_; refine rAdd rfl rfl rfl (by omega) ?_) | refine oN ?_ | refine aR ?_ | refine aX ?_); (try conv => whnf))
        obtain rfl : k = a.length := by omega
        refine loop_round ?_
        repeat ((first | refine oP rfl ?_ | refine rP rfl (fun _ z => z) ?_ | (refine kO 1 rfl ?_; refine rG (fun _ z => z) ?_) | (refine kO 3 rfl ?_; refine rG (fun _ z => z) ?_) | (refine kO 4 rfl ?_; refine rG (fun _ z => z) ?_) | refine oN ?_ | refine aS ?_ | refine aR ?_ | refine aX ?_ | refine aT ?_ | refine aC rfl ?_ | refine bF ?_); (try conv => whnf))
        rfl
end Go.Proofs.Tryz

namespace Go.Proofs.Tryz
open Go.Fw Go.IntWalk Go.Plain
set_option maxRecDepth 100000
set_option maxHeartbeats 8000000
theorem getD_eq {a b : List Int} (h : a.length = b.length) (he : ∀ j < a.length, a.getD j 0 = b.getD j 0) : a = b := by
  refine List.ext_getElem h fun j h1 h2 => ?_
  have := he j h1
  simpa [List.getD_eq_getElem?_getD, h1, h2] using this
theorem ints_sat (a b : List Int) (ha : a.length ≤ maxLen) : Sat cx.P cx.gl 45 [L a, L b] (.one (Bo (decide (a = b)))) := by
  unfold maxLen at ha
  refine Sat_of_awp (fn := f45) cx_ok (by kernel_rfl) (by kernel_rfl) rfl (by kernel_rfl) (Nat.le_of_ble_eq_true rfl) ?_
  repeat ((first | refine oP rfl ?_ | refine rP rfl (fun _ z => z) ?_ | (refine kO 1 rfl ?_; refine rG (fun _ z => z) ?_) | (refine kO 6 rfl ?_; refine rLen rfl rfl rfl rfl rfl rfl ?_) | refine oN ?_ | refine aS ?_ | refine aR ?_ | refine aC rfl ?_); (try conv => whnf))
  ((refine brp (fun h => ?_) (fun h => ?_)) <;> (try conv => whnf))
  · repeat ((first | refine oP rfl ?_ | refine rP rfl (fun _ z => z) ?_ | refine oN ?_ | refine aS ?_ | refine aR ?_ | refine aT ?_); (try conv => whnf))
    refine res_bo ?_
    rw [eq_comm, decide_eq_false_iff_not]
    intro e; subst e; omega
  · have hl : a.length = b.length := by omega
    repeat ((first | refine oP rfl ?_ | refine rP rfl (fun _ z => z) ?_ | refine oN ?_ | refine aS ?_ | refine aR ?_ | refine aK ?_ | refine aB ?_ | refine aL ?_); (try conv => whnf))
    refine loop_ind (ι := Nat) (fun i => i ≤ a.length ∧ ∀ j < i, a.getD j 0 = b.getD j 0) (fun i => a.length - i) (fun i => ⟨[(0, vL a), (1, vL b), (5, vI i)], [], 0⟩) 0 (canon_auto (by kernel_rfl)) ⟨Nat.zero_le _, by intro j hj; omega⟩ ?_
    rintro i ⟨hi, he⟩
    repeat ((first | refine oP rfl ?_ | refine rP rfl (fun _ z => z) ?_ | (refine kO 1 rfl ?_; refine rG (fun _ z => z) ?_) | (refine kO 6 rfl ?_; refine rLen rfl rfl rfl rfl rfl rfl ?_) | refine oN ?_ | refine aS ?_ | refine aR ?_ | refine aC rfl ?_); (try conv => whnf))
    ((refine brp (fun h => ?_) (fun h => ?_)) <;> (try conv => whnf))
    · have hlt : i < a.length := by omega
      repeat ((first | refine oP rfl ?_ | refine rP rfl (fun _ z => z) ?_ | (refine kO 1 rfl ?_; refine rG (fun _ z => z) ?_) | (refine kO 3 rfl ?_; refine rLdr rfl rfl rfl rfl rfl ?_) | (refine kO 5 rfl ?_; refine rIdN rfl rfl rfl rfl rfl rfl rfl (by omega) ?_) | refine oN ?_ | refine aS ?_ | refine aR ?_ | refine aK ?_ | refine aB ?_ | refine aC rfl ?_ | refine dI (by kernel_rfl) ?_); (try conv => whnf))
      ((refine brp (fun h => ?_) (fun h => ?_)) <;> (try conv => whnf))
      · repeat ((first | refine oP rfl ?_ | refine rP rfl (fun _ z => z) ?_ | refine oN ?_ | refine aS ?_ | refine aR ?_ | refine aT ?_); (try conv => whnf))
        refine res_bo ?_
        rw [eq_comm, decide_eq_false_iff_not]
        intro e; subst e; exact h rfl
      · repeat ((first | refine oP rfl ?_ | refine rP rfl (fun _ z => z) ?_ | (refine kO 1 rfl ?_; refine rAdd rfl rfl rfl (by omega) ?_) | refine oN ?_ | refine aR ?_ | refine aK ?_); (try conv => whnf))
        refine ⟨i + 1, ⟨hlt, fun j hj => ?_⟩, by omega, canon_auto (by kernel_rfl)⟩
        by_cases e : j = i
        · subst e; simpa using h
        · exact he j (by omega)
    · repeat ((first | refine oP rfl ?_ | refine rP rfl (fun _ z => z) ?_ | refine oN ?_ | refine aS ?_ | refine aR ?_ | refine aX ?_ | refine aT ?_); (try conv => whnf))
      refine res_bo ?_
      rw [eq_comm, decide_eq_true_iff]
      exact getD_eq hl fun j hj => he j (by omega)
theorem sameForces_sat (a b c d : List Int) (ha : a.length ≤ maxLen) (hb : b.length ≤ maxLen) : Sat cx.P cx.gl 26 [W2 a b, W2 c d] (.one (Bo (decide (a = c ∧ b = d)))) := by
  refine Sat_of_awp (fn := f26) cx_ok (by kernel_rfl) (by kernel_rfl) rfl (by kernel_rfl) (Nat.le_of_ble_eq_true rfl) ?_
  repeat' ((first | refine oP rfl ?_ | refine rP rfl (fun _ z => z) ?_ | (refine kO 3 rfl ?_; refine rLdb rfl rfl rfl rfl rfl rfl rfl ?_) | (refine kO 7 rfl ?_; first | refine rG (fun _ z => ⟨_, ints_sat _ _ ha, z⟩) ?_ | refine rG (fun _ z => ⟨_, ints_sat _ _ hb, z⟩) ?_) | refine oN ?_ | refine aS ?_ | refine aR ?_ | refine aT ?_ | refine oY rfl rfl rfl ?_ | refine oZ rfl rfl rfl ?_ | refine rG (fun _ z => ⟨(by (omega)), z⟩) ?_ | refine opsA_ifp rfl rfl rfl (fun h => ?_) (fun h => ?_)) <;> (try conv => whnf))
  · refine res_bo ?_; simp [h]
  · refine res_bo ?_; simp [h]
theorem same_sat (a b c d : List Int) (ha : a.length ≤ maxLen) (hb : b.length ≤ maxLen) : Sat cx.P cx.gl 12 [W2 a b, W2 c d] (.one (Bo (decide (a = c ∧ b = d)))) := by
  refine Sat_of_awp (fn := f12) cx_ok (by kernel_rfl) (by kernel_rfl) rfl (by kernel_rfl) (Nat.le_of_ble_eq_true rfl) ?_
  repeat' ((first | refine oP rfl ?_ | refine rP rfl (fun _ z => z) ?_ | (refine kO 3 rfl ?_; refine rLdb rfl rfl rfl rfl rfl rfl rfl ?_) | (refine kO 7 rfl ?_; first | refine rG (fun _ z => ⟨_, ints_sat _ _ ha, z⟩) ?_ | refine rG (fun _ z => ⟨_, ints_sat _ _ hb, z⟩) ?_) | refine oN ?_ | refine aS ?_ | refine aR ?_ | refine aT ?_ | refine oY rfl rfl rfl ?_ | refine oZ rfl rfl rfl ?_ | refine opsA_ifp rfl rfl rfl (fun h => ?_) (fun h => ?_)) <;> (try conv => whnf))
  · refine res_bo ?_; simp [h]
  · refine res_bo ?_; simp [h]
end Go.Proofs.Tryz

namespace Go.Proofs.Tryz
open Go.Fw Go.IntWalk Go.Plain
set_option maxRecDepth 100000
set_option maxHeartbeats 8000000
theorem windowErr_sat (a b : List Int) (ha : a.length ≤ maxLen) (hb : b.length ≤ maxLen) : Sat cx.P cx.gl 37 [W2 a b] (.one (I (windowErr a b))) := by
  unfold maxLen at ha hb
  have key : (¬ (0 < a.length ∧ a.length = b.length) → windowErr a b = 10) ∧ (0 < a.length → a.length = b.length → (15 < a.length → windowErr a b = 8) ∧ (a.length ≤ 15 → (¬ AllIn a (-100) 100 → windowErr a b = 2) ∧ (AllIn a (-100) 100 → (¬ AllIn b (-100) 100 → windowErr a b = 2) ∧ (AllIn b (-100) 100 → windowErr a b = if a.sum + b.sum = 0 then 0 else 13)))) := by
    unfold windowErr
    refine ⟨fun h => if_neg h, fun h1 h2 => ?_⟩
    rw [if_pos ⟨h1, h2⟩]
    refine ⟨fun h => if_neg (by omega), fun h3 => ?_⟩
    rw [if_pos h3]
    refine ⟨fun h => if_neg h, fun h4 => ?_⟩
    rw [if_pos h4]
    exact ⟨fun h => if_neg h, fun h5 => by rw [if_pos h5]⟩
  obtain ⟨k1, key⟩ := key
  generalize hw : windowErr a b = W at *
  clear hw
  refine Sat_of_awp (fn := f37) cx_ok (by kernel_rfl) (by kernel_rfl) rfl (by kernel_rfl) (Nat.le_of_ble_eq_true rfl) ?_
  repeat ((first | refine oP rfl ?_ | refine rP rfl (fun _ z => z) ?_ | (refine kO 1 rfl ?_; refine rG (fun _ z => z) ?_) | (refine kO 3 rfl ?_; refine rLdb rfl rfl rfl rfl rfl rfl rfl ?_) | (refine kO 6 rfl ?_; refine rLen rfl rfl rfl rfl rfl rfl ?_) | refine oN ?_ | refine aS ?_ | refine aR ?_); (try conv => whnf))
  ((refine opsA_unlessp rfl rfl rfl (fun h => ?_) (fun h => ?_)) <;> (try conv => whnf))
  · repeat ((first | refine oP rfl ?_ | refine rP rfl (fun _ z => z) ?_ | refine oN ?_ | refine aS ?_ | refine aR ?_ | refine aT ?_ | refine aC rfl ?_ | refine bT ?_ | refine oZ rfl rfl rfl ?_); (try conv => whnf))
    rw [k1 (by omega)]
  · repeat ((first | refine oP rfl ?_ | refine rP rfl (fun _ z => z) ?_ | (refine kO 1 rfl ?_; refine rG (fun _ z => z) ?_) | (refine kO 3 rfl ?_; refine rLdb rfl rfl rfl rfl rfl rfl rfl ?_) | (refine kO 6 rfl ?_; refine rLen rfl rfl rfl rfl rfl rfl ?_) | refine oN ?_ | refine aC rfl ?_ | refine oY rfl rfl rfl ?_); (try conv => whnf))
    ((refine brp (fun h => ?_) (fun h => ?_)) <;> (try conv => whnf))
    · repeat ((first | refine oP rfl ?_ | refine rP rfl (fun _ z => z) ?_ | refine oN ?_ | refine aS ?_ | refine aR ?_ | refine aT ?_); (try conv => whnf))
      rw [k1 (by omega)]
    · obtain ⟨k2, key⟩ := key (by omega) (by omega)
      repeat ((first | refine oP rfl ?_ | refine rP rfl (fun _ z => z) ?_ | (refine kO 1 rfl ?_; refine rG (fun _ z => z) ?_) | (refine kO 3 rfl ?_; refine rLdb rfl rfl rfl rfl rfl rfl rfl ?_) | (refine kO 6 rfl ?_; refine rLen rfl rfl rfl rfl rfl rfl ?_) | refine oN ?_ | refine aS ?_ | refine aR ?_ | refine aK ?_ | refine aC rfl ?_); (try conv => whnf))
      ((refine brp (fun h => ?_) (fun h => ?_)) <;> (try conv => whnf))
      · repeat ((first | refine oP rfl ?_ | refine rP rfl (fun _ z => z) ?_ | refine oN ?_ | refine aS ?_ | refine aR ?_ | refine aT ?_); (try conv => whnf))
        rw [k2 (by omega)]
      · obtain ⟨k3, key⟩ := key (by omega)
        repeat ((first | refine oP rfl ?_ | refine rP rfl (fun _ z => z) ?_ | refine oN ?_ | refine aS ?_ | refine aR ?_ | refine aK ?_ | refine aB ?_ | refine aL ?_); (try conv => whnf))
        refine loop_ind (ι := Nat) (fun i => i ≤ a.length ∧ ∀ j < i, -100 ≤ a.getD j 0 ∧ a.getD j 0 ≤ 100) (fun i => a.length - i) (fun i => ⟨[(1, pP 0), (3, vI (psum a i)), (4, vI i)], [(0, some (.box 35 [.st (.ints a), .st (.ints b)]))], 1⟩) 0 (canon_auto (by kernel_rfl)) ⟨Nat.zero_le _, by intro j hj; omega⟩ ?_
        rintro i ⟨hi, he⟩
        have b1 := psum_pre hi he
        have b2 : i < a.length → psum a (i + 1) = psum a i + a.getD i 0 := fun hh => psum_succ hh
        repeat ((first | refine oP rfl ?_ | refine rP rfl (fun _ z => z) ?_ | (refine kO 1 rfl ?_; refine rG (fun _ z => z) ?_) | (refine kO 3 rfl ?_; refine rLdb rfl rfl rfl rfl rfl rfl rfl ?_) | (refine kO 6 rfl ?_; refine rLen rfl rfl rfl rfl rfl rfl ?_) | refine oN ?_ | refine aS ?_ | refine aR ?_ | refine aC rfl ?_); (try conv => whnf))
        ((refine brp (fun h => ?_) (fun h => ?_)) <;> (try conv => whnf))
        · have hlt : i < a.length := by omega
          have b2 := b2 hlt
          repeat ((first | refine oP rfl ?_ | refine rP rfl (fun _ z => z) ?_ | (refine kO 2 rfl ?_; refine rG (fun _ z => z) ?_) | (refine kO 3 rfl ?_; first | refine rLdr rfl rfl rfl rfl rfl ?_ | refine rLdb rfl rfl rfl rfl rfl rfl rfl ?_) | (refine kO 5 rfl ?_; refine rIdN rfl rfl rfl rfl rfl rfl rfl (by omega) ?_) | (refine kO 7 rfl ?_; refine rG (fun _ z => ⟨_, within_p _ _ _, z⟩) ?_) | refine oN ?_ | refine aS ?_ | refine aR ?_ | refine aK ?_ | refine aB ?_ | refine aC rfl ?_); (try conv => whnf))
          ((refine brp (fun h => ?_) (fun h => ?_)) <;> (try conv => whnf))
          · repeat ((first | refine oP rfl ?_ | refine rP rfl (fun _ z => z) ?_ | refine oN ?_ | refine aS ?_ | refine aR ?_ | refine aT ?_); (try conv => whnf))
            rw [k3 (not_allIn hlt h)]
          · have h : -100 ≤ a.getD i 0 ∧ a.getD i 0 ≤ 100 := by omega
            repeat ((first | refine oP rfl ?_ | refine rP rfl (fun _ z => z) ?_ | (refine kO 1 rfl ?_; refine rAdd rfl rfl rfl (by omega) ?_) | (refine kO 3 rfl ?_; first | refine rLdr rfl rfl rfl rfl rfl ?_ | refine rLdb rfl rfl rfl rfl rfl rfl rfl ?_) | (refine kO 5 rfl ?_; refine rIdN rfl rfl rfl rfl rfl rfl rfl (by omega) ?_) | refine oN ?_ | refine aR ?_ | refine aK ?_); (try conv => whnf))
            rw [← b2]
            refine ⟨i + 1, ⟨hlt, fun j hj => ?_⟩, by omega, canon_auto (by kernel_rfl)⟩
            by_cases e : j = i
            · subst e; exact h
            · exact he j (by omega)
        · obtain rfl : i = a.length := by omega
          have hall := allIn_of he
          obtain ⟨k4, key⟩ := key hall
          have hs := sum_bound (B := 100) (by omega) hall
          rw [psum_all]
          clear b2 b1
          repeat ((first | refine oP rfl ?_ | refine rP rfl (fun _ z => z) ?_ | refine oN ?_ | refine aS ?_ | refine aR ?_ | refine aX ?_ | refine aB ?_ | refine aL ?_); (try conv => whnf))
          refine loop_ind (ι := Nat) (fun i => i ≤ b.length ∧ ∀ j < i, -100 ≤ b.getD j 0 ∧ b.getD j 0 ≤ 100) (fun i => b.length - i) (fun i => ⟨[(1, pP 0), (3, vI (a.sum + psum b i)), (5, vI i)], [(0, some (.box 35 [.st (.ints a), .st (.ints b)]))], 1⟩) 0 (canon_auto (by rw [psum_zero, Int.add_zero]; kernel_rfl)) ⟨Nat.zero_le _, by intro j hj; omega⟩ ?_
          rintro i ⟨hi, he⟩
          have b1 := psum_pre hi he
          have b2 : i < b.length → a.sum + psum b (i + 1) = a.sum + psum b i + b.getD i 0 := fun hh => by rw [psum_succ hh]; omega
          repeat ((first | refine oP rfl ?_ | refine rP rfl (fun _ z => z) ?_ | (refine kO 1 rfl ?_; refine rG (fun _ z => z) ?_) | (refine kO 3 rfl ?_; refine rLdb rfl rfl rfl rfl rfl rfl rfl ?_) | (refine kO 6 rfl ?_; refine rLen rfl rfl rfl rfl rfl rfl ?_) | refine oN ?_ | refine aS ?_ | refine aR ?_ | refine aC rfl ?_); (try conv => whnf))
          ((refine brp (fun h => ?_) (fun h => ?_)) <;> (try conv => whnf))
          · have hlt : i < b.length := by omega
            have b2 := b2 hlt
            repeat ((first | refine oP rfl ?_ | refine rP rfl (fun _ z => z) ?_ | (refine kO 2 rfl ?_; refine rG (fun _ z => z) ?_) | (refine kO 3 rfl ?_; first | refine rLdr rfl rfl rfl rfl rfl ?_ | refine rLdb rfl rfl rfl rfl rfl rfl rfl ?_) | (refine kO 5 rfl ?_; refine rIdN rfl rfl rfl rfl rfl rfl rfl (by omega) ?_) | (refine kO 7 rfl ?_; refine rG (fun _ z => ⟨_, within_p _ _ _, z⟩) ?_) | refine oN ?_ | refine aS ?_ | refine aR ?_ | refine aK ?_ | refine aB ?_ | refine aC rfl ?_); (try conv => whnf))
            ((refine brp (fun h => ?_) (fun h => ?_)) <;> (try conv => whnf))
            · repeat ((first | refine oP rfl ?_ | refine rP rfl (fun _ z => z) ?_ | refine oN ?_ | refine aS ?_ | refine aR ?_ | refine aT ?_); (try conv => whnf))
              rw [k4 (not_allIn hlt h)]
            · have h : -100 ≤ b.getD i 0 ∧ b.getD i 0 ≤ 100 := by omega
              repeat ((first | refine oP rfl ?_ | refine rP rfl (fun _ z => z) ?_ | (refine kO 1 rfl ?_; refine rAdd rfl rfl rfl (by omega) ?_) | (refine kO 3 rfl ?_; first | refine rLdr rfl rfl rfl rfl rfl ?_ | refine rLdb rfl rfl rfl rfl rfl rfl rfl ?_) | (refine kO 5 rfl ?_; refine rIdN rfl rfl rfl rfl rfl rfl rfl (by omega) ?_) | refine oN ?_ | refine aR ?_ | refine aK ?_); (try conv => whnf))
              rw [← b2]
              refine ⟨i + 1, ⟨hlt, fun j hj => ?_⟩, by omega, canon_auto (by kernel_rfl)⟩
              by_cases e : j = i
              · subst e; exact h
              · exact he j (by omega)
          · obtain rfl : i = b.length := by omega
            rw [psum_all]
            rw [key (allIn_of he)]
            repeat ((first | refine oP rfl ?_ | refine rP rfl (fun _ z => z) ?_ | (refine kO 1 rfl ?_; refine rG (fun _ z => z) ?_) | refine oN ?_ | refine aS ?_ | refine aR ?_ | refine aX ?_ | refine aC rfl ?_); (try conv => whnf))
            ((refine brp (fun h => ?_) (fun h => ?_)) <;> (try conv => whnf))
            · repeat ((first | refine oP rfl ?_ | refine rP rfl (fun _ z => z) ?_ | refine oN ?_ | refine aS ?_ | refine aR ?_ | refine aT ?_); (try conv => whnf))
              rw [if_neg h]
            · repeat ((first | refine oP rfl ?_ | refine rP rfl (fun _ z => z) ?_ | refine oN ?_ | refine aS ?_ | refine aR ?_ | refine aK ?_ | refine aT ?_); (try conv => whnf))
              rw [if_pos (by omega)]
end Go.Proofs.Tryz

namespace Go.Proofs.Tryz
open Go.Fw Go.IntWalk Go.Plain
set_option maxRecDepth 100000
set_option maxHeartbeats 16000000
theorem windowErr_le {a b : List Int} (h : windowErr a b = 0) : a.length ≤ 4294967296 ∧ b.length ≤ 4294967296 := by
  have hv := windowErr_zero.1 h
  have := hv.le; have := hv.len
  omega
abbrev pB (b : Bool) : Option DV := some (.val (false, [.st (.lit (.bool b))]))
end Go.Proofs.Tryz
