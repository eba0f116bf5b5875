/- Parts of the proof, joined. -/
import Derived.Test.YtlbmcaljkjbjpaaWa
import Derived.Test.YtlbmcaljkjbjpaaM
import Derived.Test.YtlbmcaljkjbjpaaFc
namespace Go.Proofs.Try
open Go.Fw Go.IntWalk Go.Plain
set_option maxRecDepth 100000
set_option maxHeartbeats 4000000
abbrev L (l : List Int) : SV := (false, [.ints l])
abbrev W2 (a b : List Int) : SV := (true, [.ints a, .ints b])
theorem res_iff {p q : Prop} [Decidable p] [Decidable q] (h : p ↔ q) : Res.one (Bo (decide p)) = .one (Bo (decide q)) := by rw [decide_eq_decide.2 h]
theorem natInt (i : Nat) : ((i : Int) + 1) = ((i + 1 : Nat) : Int) := by simp
theorem sum_sat (l : List Int) (hl : l.length ≤ 1000000) (hb : ∀ n ∈ l, -100 ≤ n ∧ n ≤ 100) : Sat cx.P cx.gl 54 [L l] (.one (I l.sum)) := by
  refine Sat_of_awp (fn := f54) cx_ok (by kernel_rfl) (by kernel_rfl) rfl (by kernel_rfl) (Nat.le_of_ble_eq_true rfl) ?_
  repeat ((first | refine oP rfl ?_ | refine rP rfl (fun _ z => z) ?_ | (refine kO 6 rfl ?_; refine rLen rfl rfl rfl rfl rfl rfl ?_) | refine oN ?_ | refine aS ?_ | refine aR ?_ | refine aB ?_ | refine aL ?_); (try conv => whnf))
  refine loop_ind (ι := Nat) (fun i => i ≤ l.length) (fun i => l.length - i) (fun i => ⟨[(6, vL l), (7, vI l.length), (8, vI i), (3, vI (l.take i).sum)], [], 0⟩) 0 (canon_auto (by kernel_rfl)) (Nat.zero_le _) ?_
  intro i hi
  have b1 := sum_take_bound (B := 100) (by omega) hb i
  repeat ((first | refine oP rfl ?_ | (refine kO 1 rfl ?_; refine rG (fun _ z => z) ?_) | refine oN ?_ | refine aS ?_ | refine aR ?_ | refine aC rfl ?_); (try conv => whnf))
  ((refine brp (fun h => ?_) (fun h => ?_)) <;> (try conv => whnf))
  · have hlt : i < l.length := by omega
    have b2 := sum_take_succ hlt
    have b3 := sum_take_bound (B := 100) (by omega) hb (i + 1)
    repeat ((first | refine oP rfl ?_ | refine rP rfl (fun _ z => z) ?_ | (refine kO 1 rfl ?_; refine rAdd rfl rfl rfl (by omega) ?_) | (refine kO 3 rfl ?_; refine rLdr rfl rfl rfl rfl rfl ?_) | (refine kO 5 rfl ?_; refine rIdN rfl rfl rfl rfl rfl rfl rfl (by omega) ?_) | refine oN ?_ | refine aS ?_ | refine aR ?_ | refine aK ?_ | refine aB ?_); (try conv => whnf))
    rw [← b2]
    exact ⟨i + 1, hlt, by omega, canon_auto (by kernel_rfl)⟩
  · repeat ((first | refine oP rfl ?_ | refine rP rfl (fun _ z => z) ?_ | refine oN ?_ | refine aS ?_ | refine aR ?_ | refine aX ?_ | refine aT ?_); (try conv => whnf))
    rw [show i = l.length by omega]
    exact res_i (by simp)
theorem failsF_sat (n lo hi : Int) : Sat cx.P cx.gl 66 [I n, (false, [.ref [J lo]]), (false, [.ref [J hi]])] (.one (Bo (!(decide (lo ≤ n) && decide (n ≤ hi))))) := by
  refine Sat_of_awp (fn := f66) cx_ok (by kernel_rfl) (by kernel_rfl) rfl (by kernel_rfl) (Nat.le_of_ble_eq_true rfl) ?_
  repeat' ((first | refine oP rfl ?_ | refine rP rfl (fun _ z => z) ?_ | (refine kO 2 rfl ?_; refine rG (fun _ z => z) ?_) | (refine kO 3 rfl ?_; refine rLdr rfl rfl rfl rfl rfl ?_) | (refine kO 7 rfl ?_; refine rG (fun _ z => ⟨_, within52_sat _ _ _, z⟩) ?_) | refine oN ?_ | refine aS ?_ | refine aR ?_ | refine aT ?_) <;> (try conv => whnf))
/-- A predicate on ints that a function value computes. -/
def Pred (f : SC) (p : Int → Bool) : Prop := ∃ g first caps, f = .fn g first caps ∧ ∀ n, Sat cx.P cx.gl g (first ++ [I n] ++ caps.map fun cs => (false, [.ref cs])) (.one (Bo (p n)))
theorem indexFunc_sat (l : List Int) (g : FuncId) (first : List (Bool × List SC)) (caps : List (List SC)) (p : Int → Bool) (hp : ∀ n, Sat cx.P cx.gl g (first ++ [I n] ++ caps.map fun cs => (false, [.ref cs])) (.one (Bo (p n)))) (hl : l.length ≤ maxLen) :
    Sat cx.P cx.gl 69 [L l, (false, [.fn g first caps])] (.one (I (if l.any p then (l.findIdx p : Int) else -1))) := by
  unfold maxLen at hl
  refine Sat_of_awp (fn := f69) cx_ok (by kernel_rfl) (by kernel_rfl) rfl (by kernel_rfl) (Nat.le_of_ble_eq_true rfl) ?_
  repeat ((first | refine oP rfl ?_ | refine rP rfl (fun _ z => z) ?_ | (refine kO 6 rfl ?_; refine rLen rfl rfl rfl rfl rfl rfl ?_) | refine oN ?_ | refine aS ?_ | refine aR ?_ | refine aB ?_ | refine aL ?_); (try conv => whnf))
  refine loop_ind (ι := Nat) (fun i => i ≤ l.length ∧ ∀ j < i, p (l.getD j 0) = false) (fun i => l.length - i) (fun i => ⟨[(0, vL l), (1, some (.val (false, [.st (.fn g first caps)]))), (7, vI l.length), (8, vI i)], [], 0⟩) 0 (canon_auto (by kernel_rfl)) ⟨Nat.zero_le _, by intro j hj; omega⟩ ?_
  rintro i ⟨hi, hf⟩
  repeat ((first | refine oP rfl ?_ | (refine kO 1 rfl ?_; refine rG (fun _ z => z) ?_) | refine oN ?_ | refine aS ?_ | refine aR ?_ | refine aC rfl ?_); (try conv => whnf))
  ((refine brp (fun h => ?_) (fun h => ?_)) <;> (try conv => whnf)) <;> (repeat ((first | refine oP rfl ?_ | refine rP rfl (fun _ z => z) ?_ | (refine kO 3 rfl ?_; refine rLdr rfl rfl rfl rfl rfl ?_) | (refine kO 5 rfl ?_; refine rIdN rfl rfl rfl rfl rfl rfl rfl (by omega) ?_) | refine oN ?_ | refine aS ?_ | refine aR ?_ | refine aK ?_ | refine aX ?_ | refine aB ?_ | refine aT ?_); (try conv => whnf)))
  · have hlt : i < l.length := by omega
    repeat ((first | (refine kO 7 rfl ?_; refine rG (fun _ z => ⟨_, hp _, z⟩) ?_) | refine oN ?_ | refine aC rfl ?_); (try conv => whnf))
    have hget : l.getD i 0 = l[i] := by simp [List.getD_eq_getElem?_getD, hlt]
    ((refine brp (fun h => ?_) (fun h => ?_)) <;> (try conv => whnf)) <;> (repeat ((first | refine oP rfl ?_ | refine rP rfl (fun _ z => z) ?_ | (refine kO 1 rfl ?_; refine rAdd rfl rfl rfl (by omega) ?_) | refine oN ?_ | refine aS ?_ | refine aR ?_ | refine aK ?_ | refine aT ?_); (try conv => whnf)))
    · have hany : l.any p = true := List.any_eq_true.2 ⟨l.getD i 0, getD_mem hlt, h⟩
      refine res_i ?_
      rw [if_pos hany]
      have : l.findIdx p = i := by
        rw [List.findIdx_eq hlt]
        refine ⟨by rw [← hget]; exact h, fun j hj => ?_⟩
        have := hf j hj
        simpa [List.getD_eq_getElem?_getD, show j < l.length by omega] using this
      rw [this]
    · refine ⟨i + 1, ⟨hlt, fun j hj => ?_⟩, by omega, canon_auto (by kernel_rfl)⟩
      by_cases e : j = i
      · subst e; simpa using h
      · exact hf j (by omega)
  · refine res_i ?_
    rw [if_neg]
    intro hany
    obtain ⟨x, hx, hpx⟩ := List.any_eq_true.1 hany
    obtain ⟨j, hj, rfl⟩ := List.mem_iff_getElem.1 hx
    have := hf j (by omega)
    simp [List.getD_eq_getElem?_getD, hj, hpx] at this
theorem containsFunc_sat (l : List Int) (g : FuncId) (first : List (Bool × List SC)) (caps : List (List SC)) (p : Int → Bool) (hp : ∀ n, Sat cx.P cx.gl g (first ++ [I n] ++ caps.map fun cs => (false, [.ref cs])) (.one (Bo (p n)))) (hl : l.length ≤ maxLen) :
    Sat cx.P cx.gl 65 [L l, (false, [.fn g first caps])] (.one (Bo (l.any p))) := by
  refine Sat_of_awp (fn := f65) cx_ok (by kernel_rfl) (by kernel_rfl) rfl (by kernel_rfl) (Nat.le_of_ble_eq_true rfl) ?_
  repeat' ((first | refine oP rfl ?_ | refine rP rfl (fun _ z => z) ?_ | (refine kO 1 rfl ?_; refine rG (fun _ z => z) ?_) | (refine kO 7 rfl ?_; refine rG (fun _ z => ⟨_, indexFunc_sat l g first caps p hp hl, z⟩) ?_) | refine oN ?_ | refine aS ?_ | refine aR ?_ | refine aT ?_) <;> (try conv => whnf))
  refine res_bo ?_
  cases l.any p
  · simp
  · simp
theorem any_out {l : List Int} {lo hi : Int} : (l.any fun n => !(decide (lo ≤ n) && decide (n ≤ hi))) = decide (¬ AllIn l lo hi) := by
  rw [Bool.eq_iff_iff, decide_eq_true_iff]
  rw [List.any_eq_true]
  unfold AllIn
  constructor
  · rintro ⟨x, hx, h⟩ hh
    have := hh x hx
    simp at h; omega
  · intro h
    apply Classical.byContradiction
    intro hn
    refine h fun n hm => ?_
    apply Classical.byContradiction
    intro hc
    exact hn ⟨n, hm, by simp; omega⟩
theorem unless_p {b : Bool} {p : Prop} [BP b p] [Decidable p] (e : Int) : Sat cx.P cx.gl 29 [Bo b, I e] (.one (I (if p then 0 else e))) := by
  have h := unless_sat b e
  rwa [show (if b = true then (0 : Int) else e) = if p then 0 else e from by simp only [BP.iff (b := b)]] at h
theorem first_fs (l : List Int) (hl : l.length ≤ 1000000) : Sat cx.P cx.gl 28 [(false, [.ints l])] (.one (I (fs l))) := by
  rw [← fs_find]; exact first_sat l hl
theorem fails_sat (l : List Int) (lo hi : Int) (hl : l.length ≤ maxLen) : Sat cx.P cx.gl 53 [L l, I lo, I hi] (.one (I (if AllIn l lo hi then 0 else 2))) := by
  refine Sat_of_awp (fn := f53) cx_ok (by kernel_rfl) (by kernel_rfl) rfl (by kernel_rfl) (Nat.le_of_ble_eq_true rfl) ?_
  repeat' ((first | refine oP rfl ?_ | refine rP rfl (fun _ z => z) ?_ | (refine kO 2 rfl ?_; refine rG (fun _ z => z) ?_) | (refine kO 7 rfl ?_; first | refine rG (fun _ z => ⟨_, containsFunc_sat l _ _ _ _ (fun n => failsF_sat n lo hi) hl, z⟩) ?_ | refine rG (fun _ z => ⟨_, unless_p _, z⟩) ?_) | refine oN ?_ | refine aS ?_ | refine aR ?_ | refine aT ?_) <;> (try conv => whnf))
  refine res_i ?_
  rw [any_out]
  simp
abbrev pP (id : Nat) : Option DV := some (one (.ptr id 0))
abbrev pO (id : Nat) : Option DV := some (one (.own id))
theorem fs_nz {n : Int} (h : n ≠ 0) (l : List Int) : fs (n :: l) = n := by simp [fs, h]
end Go.Proofs.Try

namespace Go.Proofs.Try
open Go.Fw Go.IntWalk Go.Plain
set_option maxRecDepth 100000
set_option maxHeartbeats 4000000
theorem checkWindow_sat (a b : List Int) (ha : a.length ≤ maxLen) (hb : b.length ≤ maxLen) : Sat cx.P cx.gl 34 [W2 a b] (.one (I (windowErr a b))) := by
  have hz : ∀ {l : List Int} {p q : Prop} [Decidable p] [Decidable q] {r s : Prop} [Decidable r] [Decidable s], fs [if p then 0 else 10, if q then 0 else 8, if r then 0 else 2, if s then 0 else 2] = if p then if q then if r then if s then 0 else 2 else 2 else 8 else 10 := by
    intro l p q _ _ r s _ _
    simp only [fs, ifE (show (10 : Int) ≠ 0 by decide), ifE (show (8 : Int) ≠ 0 by decide), ifE (show (2 : Int) ≠ 0 by decide), if0]
  have hs : (∀ n ∈ a, -100 ≤ n ∧ n ≤ 100) → (∀ n ∈ b, -100 ≤ n ∧ n ≤ 100) → a.length ≤ 15 → b.length ≤ 15 → (-1500 ≤ a.sum ∧ a.sum ≤ 1500) ∧ (-1500 ≤ b.sum ∧ b.sum ≤ 1500) := by
    intro h1 h2 h3 h4
    have := sum_bound (B := 100) (by omega) h1
    have := sum_bound (B := 100) (by omega) h2
    omega
  refine Sat_of_awp (fn := f34) cx_ok (by kernel_rfl) (by kernel_rfl) rfl (by kernel_rfl) (Nat.le_of_ble_eq_true rfl) ?_
  repeat' ((first | refine oP rfl ?_ | refine rP rfl (fun _ z => z) ?_ | (refine kO 1 rfl ?_; refine rG (fun _ z => z) ?_) | (refine kO 3 rfl ?_; refine rLdb rfl rfl rfl rfl rfl rfl rfl ?_) | (refine kO 7 rfl ?_; first | refine rG (fun _ z => ⟨_, unless_p _, z⟩) ?_ | refine rG (fun _ z => ⟨_, fails_sat _ _ _ ha, z⟩) ?_ | refine rG (fun _ z => ⟨_, fails_sat _ _ _ hb, z⟩) ?_ | refine rG (fun _ z => ⟨_, first_fs _ (Nat.le_of_ble_eq_true rfl), z⟩) ?_) | (refine kO 6 rfl ?_; refine rLen rfl rfl rfl rfl rfl rfl ?_) | refine oN ?_ | refine aS ?_ | refine aR ?_ | refine aK ?_ | refine aT ?_ | refine aC rfl ?_ | refine bT ?_ | refine oY rfl rfl rfl ?_ | refine oZ rfl rfl rfl ?_ | refine dI (by kernel_rfl) ?_ | refine brp (fun h => ?_) (fun h => ?_) | refine opsA_ifp rfl rfl rfl (fun h => ?_) (fun h => ?_)) <;> (try conv => whnf))
  · refine res_i ?_
    rw [hz (l := [])] at *
    unfold windowErr
    revert h
    (repeat' split) <;> simp <;> omega
  · rw [hz (l := [])] at h
    have hh : a.length = b.length ∧ a.length ≤ 15 ∧ AllIn a (-100) 100 ∧ AllIn b (-100) 100 := by
      (repeat' split at h) <;> first | (exact absurd h (by decide)) | (refine ⟨by omega, by omega, by assumption, by assumption⟩)
    obtain ⟨h1, h2, h3, h4⟩ := hh
    have h5 := hs h3 h4 h2 (by omega)
    repeat' ((first | refine oP rfl ?_ | refine rP rfl (fun _ z => z) ?_ | (refine kO 1 rfl ?_; first | refine rAdd rfl rfl rfl (by omega) ?_ | refine rG (fun _ z => z) ?_) | (refine kO 3 rfl ?_; refine rLdb rfl rfl rfl rfl rfl rfl rfl ?_) | (refine kO 7 rfl ?_; first | refine rG (fun _ z => ⟨_, sum_sat _ (by omega) h3, z⟩) ?_ | refine rG (fun _ z => ⟨_, sum_sat _ (by omega) h4, z⟩) ?_ | refine rG (fun _ z => ⟨_, unless_p _, z⟩) ?_) | refine oN ?_ | refine aT ?_ | refine dI (by kernel_rfl) ?_) <;> (try conv => whnf))
    refine res_i ?_
    unfold windowErr
    rw [if_pos (show 0 < a.length ∧ a.length = b.length by omega), if_pos h2, if_pos h3, if_pos h4]
  · refine res_i ?_
    unfold windowErr
    rw [if_neg (show ¬ (0 < a.length ∧ a.length = b.length) by omega)]; simp [fs]
theorem copyInts_sat (l : List Int) (hl : l.length ≤ 4294967296) : Sat cx.P cx.gl 33 [L l] (.own 1 (.ints l)) := by
  refine Sat_of_awp (fn := f33) cx_ok (by kernel_rfl) (by kernel_rfl) rfl (by kernel_rfl) (Nat.le_of_ble_eq_true rfl) ?_
  repeat' ((first | refine oP rfl ?_ | refine rP rfl (fun _ z => z) ?_ | refine oN ?_ | refine aS ?_ | refine aR ?_ | refine aT ?_ | refine rG (fun _ z => ⟨(by (rfl)), (by (exact lnN (by omega))), z⟩) ?_) <;> (try conv => whnf))
  rfl
theorem copy_sat (a b : List Int) (ha : a.length ≤ 4294967296) (hb : b.length ≤ 4294967296) : Sat cx.P cx.gl 8 [W2 a b] (.one (W2 a b)) := by
  refine Sat_of_awp (fn := f8) cx_ok (by kernel_rfl) (by kernel_rfl) rfl (by kernel_rfl) (Nat.le_of_ble_eq_true rfl) ?_
  repeat' ((first | refine oP rfl ?_ | refine rP rfl (fun _ z => z) ?_ | (refine kO 3 rfl ?_; refine rLdb rfl rfl rfl rfl rfl rfl rfl ?_) | (refine kO 4 rfl ?_; refine rG (fun _ z => z) ?_) | (refine kO 7 rfl ?_; first | refine rG (fun _ z => ⟨_, copyInts_sat _ ha, z⟩) ?_ | refine rG (fun _ z => ⟨_, copyInts_sat _ hb, z⟩) ?_) | refine oN ?_ | refine aS ?_ | refine aR ?_ | refine aT ?_ | refine dI (by kernel_rfl) ?_) <;> (try conv => whnf))
  rfl
theorem few_sat (a b : List Int) : Sat cx.P cx.gl 6 [W2 a b] (.one (Bo (decide (a.length ≤ 17 ∧ b.length ≤ 17)))) := by
  refine Sat_of_awp (fn := f6) cx_ok (by kernel_rfl) (by kernel_rfl) rfl (by kernel_rfl) (Nat.le_of_ble_eq_true rfl) ?_
  repeat' ((first | refine oP rfl ?_ | refine rP rfl (fun _ z => z) ?_ | (refine kO 1 rfl ?_; refine rG (fun _ z => z) ?_) | (refine kO 3 rfl ?_; refine rLdb rfl rfl rfl rfl rfl rfl rfl ?_) | (refine kO 6 rfl ?_; refine rLen rfl rfl rfl rfl rfl rfl ?_) | refine oN ?_ | refine aS ?_ | refine aR ?_ | refine aT ?_ | refine oY rfl rfl rfl ?_ | refine oZ rfl rfl rfl ?_ | refine opsA_ifp rfl rfl rfl (fun h => ?_) (fun h => ?_)) <;> (try conv => whnf))
  all_goals refine res_bo ?_
  all_goals simp only [decide_eq_true_eq, decide_eq_false_iff_not, eq_comm (a := false), eq_comm (a := true), decide_eq_decide]
  all_goals omega
theorem open_sat (a b : List Int) (ha : a.length ≤ maxLen) (hb : b.length ≤ maxLen) : Sat cx.P cx.gl 27 [W2 a b] (.tup [W2 a b, I (windowErr a b)]) := by
  refine Sat_of_awp (fn := f27) cx_ok (by kernel_rfl) (by kernel_rfl) rfl (by kernel_rfl) (Nat.le_of_ble_eq_true rfl) ?_
  repeat' ((first | refine oP rfl ?_ | refine rP rfl (fun _ z => z) ?_ | (refine kO 3 rfl ?_; refine rG (fun _ z => z) ?_) | (refine kO 4 rfl ?_; refine rG (fun _ z => z) ?_) | (refine kO 7 rfl ?_; refine rG (fun _ z => ⟨_, checkWindow_sat a b ha hb, z⟩) ?_) | refine oN ?_ | refine aS ?_ | refine aR ?_ | refine aT ?_ | refine dI (by kernel_rfl) ?_) <;> (try conv => whnf))
  rfl
theorem residuals_sat (a b : List Int) (hv : VW a b) : Sat cx.P cx.gl 37 [W2 a b] (.own 1 (.ints (residL a b a.length))) := by
  have hl := hv.len
  have hle := hv.le
  refine Sat_of_awp (fn := f37) cx_ok (by kernel_rfl) (by kernel_rfl) rfl (by kernel_rfl) (Nat.le_of_ble_eq_true rfl) ?_
  repeat ((first | refine oP rfl ?_ | refine rP rfl (fun _ z => z) ?_ | (refine kO 3 rfl ?_; refine rLdb rfl rfl rfl rfl rfl rfl rfl ?_) | (refine kO 6 rfl ?_; refine rLen rfl rfl rfl rfl rfl rfl ?_) | refine oN ?_ | refine aS ?_ | refine aR ?_ | refine aB ?_ | refine aL ?_); (try conv => whnf))
  refine loop_ind (ι := Nat) (fun i => i ≤ a.length) (fun i => a.length - i) (fun i => ⟨[(1, pP 0), (3, pO 1), (9, vL a), (10, vI a.length), (11, vI i)], [(0, some (.box 63 [.st (.ints a), .st (.ints b)])), (1, some (.row true 1 (.ints (residL a b i))))], 2⟩) 0 (canon_auto (by kernel_rfl)) (Nat.zero_le _) ?_
  intro i hi
  have b1 := hv.rs_bound i
  have b2 := hv.rs_bound (i + 1)
  have b3 := hv.a_bound i
  have b4 := hv.b_bound i
  have b5 := residL_len a b i
  have b6 := residL_getD (a := a) (b := b) (Nat.le_refl i)
  repeat ((first | refine oP rfl ?_ | (refine kO 1 rfl ?_; refine rG (fun _ z => z) ?_) | refine oN ?_ | refine aS ?_ | refine aR ?_ | refine aC rfl ?_); (try conv => whnf))
  ((refine brp (fun h => ?_) (fun h => ?_)) <;> (try conv => whnf))
  · have hlt : i < a.length := by omega
    have b7 := rs_succ hlt hl
    repeat ((first | refine oP rfl ?_ | refine rP rfl (fun _ z => z) ?_ | (refine kO 1 rfl ?_; refine rAdd rfl rfl rfl (by omega) ?_) | (refine kO 3 rfl ?_; first | refine rLdr rfl rfl rfl rfl rfl ?_ | refine rLdb rfl rfl rfl rfl rfl rfl rfl ?_ | refine rLdi rfl rfl rfl rfl rfl rfl (by omega) ?_) | (refine kO 5 rfl ?_; first | refine rIdN rfl rfl rfl rfl rfl rfl rfl (by omega) ?_ | refine rIdoN rfl rfl rfl rfl rfl rfl rfl rfl (by (dsimp only [SC.len]; omega)) ?_) | refine oN ?_ | refine aS ?_ | refine aR ?_ | refine aK ?_ | refine aB ?_ | refine dI (by kernel_rfl) ?_ | refine rG (fun _ z => ⟨(by (rfl)), (by (exact lnS (by omega))), z⟩) ?_); (try conv => whnf))
    rw [b6, ← b7, ← residL_succ]
    exact ⟨i + 1, hlt, by omega, canon_auto (by kernel_rfl)⟩
  · repeat ((first | refine oP rfl ?_ | refine rP rfl (fun _ z => z) ?_ | refine oN ?_ | refine aS ?_ | refine aR ?_ | refine aX ?_ | refine aT ?_); (try conv => whnf))
    rw [show i = a.length by omega]
theorem both_sat (a b : List Int) : Sat cx.P cx.gl 38 [W2 a b] (.one (W2 a b)) := by
  refine Sat_of_awp (fn := f38) cx_ok (by kernel_rfl) (by kernel_rfl) rfl (by kernel_rfl) (Nat.le_of_ble_eq_true rfl) ?_
  repeat' ((first | refine oP rfl ?_ | refine rP rfl (fun _ z => z) ?_ | (refine kO 3 rfl ?_; refine rLdb rfl rfl rfl rfl rfl rfl rfl ?_) | (refine kO 4 rfl ?_; refine rG (fun _ z => z) ?_) | refine oN ?_ | refine aS ?_ | refine aR ?_ | refine aT ?_) <;> (try conv => whnf))
  rfl
theorem axial_sat (a b : List Int) (hv : VW a b) : Sat cx.P cx.gl 45 [W2 a b] (.one (W2 (axL a a b a.length) (axL b a b a.length))) := by
  have hl := hv.len
  have hle := hv.le
  have hpos := hv.pos
  have c1 := residL_len a b a.length
  have c2 : ∀ i, i ≤ a.length → (residL a b a.length).getD i 0 = rs a b i := fun i hi => residL_getD hi
  have c3 := hv.rs_bound
  have f1 : ∀ i, i < a.length → (-6000 ≤ rs a b i + rs a b (i + 1) ∧ rs a b i + rs a b (i + 1) ≤ 6000) := fun i _ => by have := c3 i; have := c3 (i + 1); omega
  refine Sat_of_awp (fn := f45) cx_ok (by kernel_rfl) (by kernel_rfl) rfl (by kernel_rfl) (Nat.le_of_ble_eq_true rfl) ?_
  repeat ((first | refine oP rfl ?_ | refine rP rfl (fun _ z => z) ?_ | (refine kO 3 rfl ?_; refine rG (fun _ z => z) ?_) | (refine kO 7 rfl ?_; first | refine rG (fun _ z => ⟨_, residuals_sat a b hv, z⟩) ?_ | refine rG (fun _ z => ⟨_, both_sat a b, z⟩) ?_) | refine oN ?_ | refine aS ?_ | refine aR ?_ | refine aB ?_ | refine aL ?_); (try conv => whnf))
  refine loop_round ?_
  repeat ((first | refine oP rfl ?_ | refine rP rfl (fun _ z => z) ?_ | (refine kO 1 rfl ?_; refine rG (fun _ z => z) ?_) | (refine kO 6 rfl ?_; refine rLen rfl rfl rfl rfl rfl rfl ?_) | refine oN ?_ | refine aS ?_ | refine aR ?_ | refine aK ?_ | refine aB ?_ | refine aC rfl ?_ | refine bT ?_ | refine aL ?_ | refine rG (fun _ z => ⟨(by (omega)), z⟩) ?_); (try conv => whnf))
  refine loop_round ?_
  have d1 := c2 0 (by omega)
  have d2 := c2 (0 + 1) (by omega)
  have d3 := f1 0 hpos
  have d4 := hv.ax_bound hv.ra 0
  unfold axF at d4
  rw [← d1, ← d2] at d4
  repeat ((first | refine oP rfl ?_ | refine rP rfl (fun _ z => z) ?_ | (refine kO 1 rfl ?_; first | refine rAdd rfl rfl rfl (by omega) ?_ | refine rMul rfl rfl rfl (by omega) ?_ | refine rG (fun _ z => z) ?_) | (refine kO 3 rfl ?_; first | refine rLdr rfl rfl rfl rfl rfl ?_ | refine rLdb rfl rfl rfl rfl rfl rfl rfl ?_ | refine rLdi rfl rfl rfl rfl rfl rfl (by omega) ?_) | (refine kO 4 rfl ?_; refine rG (fun _ z => z) ?_) | (refine kO 5 rfl ?_; first | refine rIdN rfl rfl rfl rfl rfl rfl rfl (by omega) ?_ | refine rIdoN rfl rfl rfl rfl rfl rfl rfl rfl (by (dsimp only [SC.len]; omega)) ?_) | refine oN ?_ | refine aS ?_ | refine aR ?_ | refine aK ?_ | refine aB ?_ | refine aC rfl ?_ | refine bPt (by omega) ?_ | refine dI (by kernel_rfl) ?_ | refine rG (fun _ z => ⟨(by (omega)), z⟩) ?_ | refine rG (fun _ z => ⟨(by (rfl)), (by (((try unfold SC.len); (try unfold SC.uni); (try unfold LIM); (try simp); (try omega); done))), z⟩) ?_); (try conv => whnf))
  refine loop_ind (ι := Nat) (fun i => 1 ≤ i ∧ i ≤ a.length) (fun i => a.length - i) (fun i => ⟨[(1, pP 0), (2, pP 1), (3, pP 2), (4, pO 3), (12, some (.val (true, [.st (.ints a), .st (.ints b)]))), (13, vI 0), (5, vI 0), (17, vL a), (18, vI a.length), (19, vI i)],
    [(0, some (.box 63 [.st (.ints a), .st (.ints b)])), (1, some (.box 42 [.nil, .nil])), (2, some (.box 42 [.own 4, .nil])), (3, some (.row true 1 (.ints (residL a b a.length)))), (4, some (.row true 1 (.ints (axL a a b i))))], 5⟩) 1 (canon_auto (by rw [d1, d2]; kernel_rfl)) ⟨by omega, by omega⟩ ?_
  rintro i ⟨hi0, hi⟩
  clear d1 d2 d3 d4
  have d1 := c2 i hi
  have d2 : i < a.length → (residL a b a.length).getD (i + 1) 0 = rs a b (i + 1) := fun hh => c2 (i + 1) hh
  have d4 := hv.ax_bound hv.ra i
  unfold axF at d4
  have d6 := axL_len a a b i
  have d5 := axL_succ a a b i
  unfold axF at d5
  repeat ((first | refine oP rfl ?_ | (refine kO 1 rfl ?_; refine rG (fun _ z => z) ?_) | refine oN ?_ | refine aS ?_ | refine aR ?_ | refine aC rfl ?_); (try conv => whnf))
  ((refine brp (fun h => ?_) (fun h => ?_)) <;> (try conv => whnf))
  · have hlt : i < a.length := by omega
    have d2 := d2 hlt
    have d3 := f1 i hlt
    rw [← d1, ← d2] at d4 d5
    repeat ((first | refine oP rfl ?_ | refine rP rfl (fun _ z => z) ?_ | (refine kO 1 rfl ?_; first | refine rAdd rfl rfl rfl (by omega) ?_ | refine rMul rfl rfl rfl (by omega) ?_) | (refine kO 3 rfl ?_; first | refine rLdr rfl rfl rfl rfl rfl ?_ | refine rLdb rfl rfl rfl rfl rfl rfl rfl ?_ | refine rLdi rfl rfl rfl rfl rfl rfl (by omega) ?_) | (refine kO 4 rfl ?_; refine rG (fun _ z => z) ?_) | (refine kO 5 rfl ?_; first | refine rIdN rfl rfl rfl rfl rfl rfl rfl (by omega) ?_ | refine rIdoN rfl rfl rfl rfl rfl rfl rfl rfl (by (dsimp only [SC.len]; omega)) ?_) | refine oN ?_ | refine aS ?_ | refine aR ?_ | refine aK ?_ | refine aB ?_ | refine dI (by kernel_rfl) ?_ | refine rG (fun _ z => ⟨(by (omega)), z⟩) ?_ | refine rG (fun _ z => ⟨(by (rfl)), (by (exact lnS (by omega))), z⟩) ?_); (try conv => whnf))
    rw [← d5]
    exact ⟨i + 1, ⟨by omega, hlt⟩, by omega, canon_auto (by kernel_rfl)⟩
  · repeat ((first | refine oP rfl ?_ | refine rP rfl (fun _ z => z) ?_ | (refine kO 1 rfl ?_; refine rAdd rfl rfl rfl (by omega) ?_) | refine oN ?_ | refine aR ?_ | refine aX ?_); (try conv => whnf))
    obtain rfl : i = a.length := by omega
    refine loop_round ?_
    repeat ((first | refine oP rfl ?_ | refine rP rfl (fun _ z => z) ?_ | (refine kO 1 rfl ?_; refine rG (fun _ z => z) ?_) | (refine kO 6 rfl ?_; refine rLen rfl rfl rfl rfl rfl rfl ?_) | refine oN ?_ | refine aS ?_ | refine aR ?_ | refine aK ?_ | refine aB ?_ | refine aC rfl ?_ | refine bT ?_ | refine aL ?_ | refine rG (fun _ z => ⟨(by (omega)), z⟩) ?_); (try conv => whnf))
    refine loop_round ?_
    have e1 := c2 0 (by omega)
    have e2 := c2 (0 + 1) (by omega)
    have e3 := f1 0 hpos
    have e4 := hv.ax_bound hv.rb 0
    unfold axF at e4
    rw [← e1, ← e2] at e4
    repeat ((first | refine oP rfl ?_ | refine rP rfl (fun _ z => z) ?_ | (refine kO 1 rfl ?_; first | refine rAdd rfl rfl rfl (by omega) ?_ | refine rMul rfl rfl rfl (by omega) ?_ | refine rG (fun _ z => z) ?_) | (refine kO 3 rfl ?_; first | refine rLdr rfl rfl rfl rfl rfl ?_ | refine rLdb rfl rfl rfl rfl rfl rfl rfl ?_ | refine rLdi rfl rfl rfl rfl rfl rfl (by omega) ?_) | (refine kO 4 rfl ?_; refine rG (fun _ z => z) ?_) | (refine kO 5 rfl ?_; first | refine rIdN rfl rfl rfl rfl rfl rfl rfl (by omega) ?_ | refine rIdoN rfl rfl rfl rfl rfl rfl rfl rfl (by (dsimp only [SC.len]; omega)) ?_) | refine oN ?_ | refine aS ?_ | refine aR ?_ | refine aK ?_ | refine aB ?_ | refine aC rfl ?_ | refine bPt (by omega) ?_ | refine dI (by kernel_rfl) ?_ | refine rG (fun _ z => ⟨(by (omega)), z⟩) ?_ | refine rG (fun _ z => ⟨(by (rfl)), (by (((try unfold SC.len); (try unfold SC.uni); (try unfold LIM); (try simp); (try omega); done))), z⟩) ?_); (try conv => whnf))
    refine loop_ind (ι := Nat) (fun i => 1 ≤ i ∧ i ≤ a.length) (fun i => a.length - i) (fun i => ⟨[(1, pP 0), (2, pP 1), (3, pP 2), (4, pO 3), (12, some (.val (true, [.st (.ints a), .st (.ints b)]))), (13, vI 1), (5, vI 1), (17, vL b), (18, vI b.length), (19, vI i)],
      [(0, some (.box 63 [.st (.ints a), .st (.ints b)])), (1, some (.box 42 [.nil, .nil])), (2, some (.box 42 [.own 4, .own 5])), (3, some (.row true 1 (.ints (residL a b a.length)))), (4, some (.row true 1 (.ints (axL a a b a.length)))), (5, some (.row true 1 (.ints (axL b a b i))))], 6⟩) 1 (canon_auto (by rw [e1, e2]; kernel_rfl)) ⟨by omega, by omega⟩ ?_
    clear d1 d2 d4 d5 d6 e1 e2 e3 e4 hi hi0
    rintro i ⟨hi0, hi⟩
    have d1 := c2 i hi
    have d2 : i < a.length → (residL a b a.length).getD (i + 1) 0 = rs a b (i + 1) := fun hh => c2 (i + 1) hh
    have d4 := hv.ax_bound hv.rb i
    unfold axF at d4
    have d6 := axL_len b a b i
    have d5 := axL_succ b a b i
    unfold axF at d5
    repeat ((first | refine oP rfl ?_ | (refine kO 1 rfl ?_; refine rG (fun _ z => z) ?_) | refine oN ?_ | refine aS ?_ | refine aR ?_ | refine aC rfl ?_); (try conv => whnf))
    ((refine brp (fun h => ?_) (fun h => ?_)) <;> (try conv => whnf))
    · have hlt : i < a.length := by omega
      have d2 := d2 hlt
      have d3 := f1 i hlt
      rw [← d1, ← d2] at d4 d5
      repeat ((first | refine oP rfl ?_ | refine rP rfl (fun _ z => z) ?_ | (refine kO 1 rfl ?_; first | refine rAdd rfl rfl rfl (by omega) ?_ | refine rMul rfl rfl rfl (by omega) ?_) | (refine kO 3 rfl ?_; first | refine rLdr rfl rfl rfl rfl rfl ?_ | refine rLdb rfl rfl rfl rfl rfl rfl rfl ?_ | refine rLdi rfl rfl rfl rfl rfl rfl (by omega) ?_) | (refine kO 4 rfl ?_; refine rG (fun _ z => z) ?_) | (refine kO 5 rfl ?_; first | refine rIdN rfl rfl rfl rfl rfl rfl rfl (by omega) ?_ | refine rIdoN rfl rfl rfl rfl rfl rfl rfl rfl (by (dsimp only [SC.len]; omega)) ?_) | refine oN ?_ | refine aS ?_ | refine aR ?_ | refine aK ?_ | refine aB ?_ | refine dI (by kernel_rfl) ?_ | refine rG (fun _ z => ⟨(by (omega)), z⟩) ?_ | refine rG (fun _ z => ⟨(by (rfl)), (by (exact lnS (by omega))), z⟩) ?_); (try conv => whnf))
      rw [← d5]
      exact ⟨i + 1, ⟨by omega, hlt⟩, by omega, canon_auto (by kernel_rfl)⟩
    · repeat ((first | refine oP rfl ?_ | refine rP rfl (fun _ z => z) ?_ | (refine kO 1 rfl ?_; refine rAdd rfl rfl rfl (by omega) ?_) | refine oN ?_ | refine aR ?_ | refine aX ?_); (try conv => whnf))
      obtain rfl : i = a.length := by omega
      refine loop_round ?_
      repeat ((first | refine oP rfl ?_ | (refine kO 1 rfl ?_; refine rG (fun _ z => z) ?_) | (refine kO 3 rfl ?_; refine rG (fun _ z => z) ?_) | (refine kO 4 rfl ?_; refine rG (fun _ z => z) ?_) | refine oN ?_ | refine aS ?_ | refine aR ?_ | refine aX ?_ | refine aT ?_ | refine aC rfl ?_ | refine bF ?_); (try conv => whnf))
      rfl
end Go.Proofs.Try

namespace Go.Proofs.Try
open Go.Fw Go.IntWalk Go.Plain
set_option maxRecDepth 100000
set_option maxHeartbeats 4000000
def thL (l : List Int) : List Int := sumsL l l.length
theorem thrusts_sat (a b : List Int) (hv : VW a b) : Sat cx.P cx.gl 47 [W2 a b] (.one (W2 (thL (axL a a b a.length)) (thL (axL b a b a.length)))) := by
  have hl := hv.len
  have hle := hv.le
  have hpos := hv.pos
  have la := axL_len a a b a.length
  have lb := axL_len b a b a.length
  have pa : ∀ k, -9000000 ≤ psum (axL a a b a.length) k ∧ psum (axL a a b a.length) k ≤ 9000000 := fun k => by
    have := psum_bound (B := 600000) (by omega) (axL_mem hv hv.ra a.length) k
    omega
  have pb : ∀ k, -9000000 ≤ psum (axL b a b a.length) k ∧ psum (axL b a b a.length) k ≤ 9000000 := fun k => by
    have := psum_bound (B := 600000) (by omega) (axL_mem hv hv.rb a.length) k
    omega
  have ax := axial_sat a b hv
  generalize axL a a b a.length = A at *
  generalize axL b a b a.length = B at *
  refine Sat_of_awp (fn := f47) cx_ok (by kernel_rfl) (by kernel_rfl) rfl (by kernel_rfl) (Nat.le_of_ble_eq_true rfl) ?_
  repeat ((first | refine oP rfl ?_ | refine rP rfl (fun _ z => z) ?_ | (refine kO 3 rfl ?_; refine rG (fun _ z => z) ?_) | (refine kO 7 rfl ?_; refine rG (fun _ z => ⟨_, ax, z⟩) ?_) | refine oN ?_ | refine aS ?_ | refine aR ?_ | refine aB ?_ | refine aL ?_); (try conv => whnf))
  refine loop_round ?_
  repeat ((first | refine oP rfl ?_ | refine rP rfl (fun _ z => z) ?_ | (refine kO 1 rfl ?_; refine rG (fun _ z => z) ?_) | (refine kO 4 rfl ?_; refine rG (fun _ z => z) ?_) | (refine kO 6 rfl ?_; refine rLen rfl rfl rfl rfl rfl rfl ?_) | refine oN ?_ | refine aS ?_ | refine aR ?_ | refine aK ?_ | refine aB ?_ | refine aC rfl ?_ | refine bT ?_ | refine aL ?_ | refine rG (fun _ z => ⟨(by (omega)), z⟩) ?_); (try conv => whnf))
  refine loop_ind (ι := Nat) (fun i => i ≤ A.length) (fun i => A.length - i) (fun i => ⟨[(1, pP 0), (2, pP 1), (3, pP 2), (9, some (.val (true, [.st (.ints A), .st (.ints B)]))), (10, vI 0), (4, vI 0), (17, vL A), (18, vI A.length), (19, vI i)],
    [(0, some (.box 63 [.st (.ints a), .st (.ints b)])), (1, some (.box 42 [.nil, .nil])), (2, some (.box 42 [.own 3, .nil])), (3, some (.row true 1 (.ints (sumsL A i))))], 4⟩) 0 (canon_auto (by kernel_rfl)) (by omega) ?_
  intro i hi
  have b1 := pa (i + 1)
  have b5 := sumsL_len A i
  have b6 := sumsL_getD (l := A) (Nat.le_refl i)
  have b8 := sumsL_succ A i
  have b7 : i < A.length → psum A (i + 1) = psum A i + A.getD i 0 := fun hh => psum_succ hh
  repeat ((first | refine oP rfl ?_ | (refine kO 1 rfl ?_; refine rG (fun _ z => z) ?_) | refine oN ?_ | refine aS ?_ | refine aR ?_ | refine aC rfl ?_); (try conv => whnf))
  ((refine brp (fun h => ?_) (fun h => ?_)) <;> (try conv => whnf))
  · have hlt : i < A.length := by omega
    have b7 := b7 hlt
    repeat ((first | refine oP rfl ?_ | refine rP rfl (fun _ z => z) ?_ | (refine kO 1 rfl ?_; refine rAdd rfl rfl rfl (by omega) ?_) | (refine kO 3 rfl ?_; first | refine rLdr rfl rfl rfl rfl rfl ?_ | refine rLdb rfl rfl rfl rfl rfl rfl rfl ?_ | refine rLdi rfl rfl rfl rfl rfl rfl (by omega) ?_) | (refine kO 4 rfl ?_; refine rG (fun _ z => z) ?_) | (refine kO 5 rfl ?_; first | refine rIdN rfl rfl rfl rfl rfl rfl rfl (by omega) ?_ | refine rIdoN rfl rfl rfl rfl rfl rfl rfl rfl (by (dsimp only [SC.len]; omega)) ?_) | refine oN ?_ | refine aS ?_ | refine aR ?_ | refine aK ?_ | refine aB ?_ | refine dI (by kernel_rfl) ?_ | refine rG (fun _ z => ⟨(by (omega)), z⟩) ?_ | refine rG (fun _ z => ⟨(by (rfl)), (by (exact lnS (by omega))), z⟩) ?_); (try conv => whnf))
    rw [b6, ← b7, ← b8]
    exact ⟨i + 1, hlt, by omega, canon_auto (by kernel_rfl)⟩
  · repeat ((first | refine oP rfl ?_ | refine rP rfl (fun _ z => z) ?_ | (refine kO 1 rfl ?_; refine rAdd rfl rfl rfl (by omega) ?_) | refine oN ?_ | refine aR ?_ | refine aX ?_); (try conv => whnf))
    obtain rfl : i = A.length := by omega
    refine loop_round ?_
    repeat ((first | refine oP rfl ?_ | refine rP rfl (fun _ z => z) ?_ | (refine kO 1 rfl ?_; refine rG (fun _ z => z) ?_) | (refine kO 4 rfl ?_; refine rG (fun _ z => z) ?_) | (refine kO 6 rfl ?_; refine rLen rfl rfl rfl rfl rfl rfl ?_) | refine oN ?_ | refine aS ?_ | refine aR ?_ | refine aK ?_ | refine aB ?_ | refine aC rfl ?_ | refine bT ?_ | refine aL ?_ | refine rG (fun _ z => ⟨(by (omega)), z⟩) ?_); (try conv => whnf))
    clear b1 b5 b6 b7 b8
    refine loop_ind (ι := Nat) (fun i => i ≤ B.length) (fun i => B.length - i) (fun i => ⟨[(1, pP 0), (2, pP 1), (3, pP 2), (9, some (.val (true, [.st (.ints A), .st (.ints B)]))), (10, vI 1), (4, vI 1), (17, vL B), (18, vI B.length), (19, vI i)],
      [(0, some (.box 63 [.st (.ints a), .st (.ints b)])), (1, some (.box 42 [.nil, .nil])), (2, some (.box 42 [.own 3, .own 4])), (3, some (.row true 1 (.ints (sumsL A A.length)))), (4, some (.row true 1 (.ints (sumsL B i))))], 5⟩) 0 (canon_auto (by kernel_rfl)) (by omega) ?_
    clear hi h
    intro i hi
    have b1 := pb (i + 1)
    have b5 := sumsL_len B i
    have b6 := sumsL_getD (l := B) (Nat.le_refl i)
    have b8 := sumsL_succ B i
    have b7 : i < B.length → psum B (i + 1) = psum B i + B.getD i 0 := fun hh => psum_succ hh
    repeat ((first | refine oP rfl ?_ | (refine kO 1 rfl ?_; refine rG (fun _ z => z) ?_) | refine oN ?_ | refine aS ?_ | refine aR ?_ | refine aC rfl ?_); (try conv => whnf))
    ((refine brp (fun h => ?_) (fun h => ?_)) <;> (try conv => whnf))
    · have hlt : i < B.length := by omega
      have b7 := b7 hlt
      repeat ((first | refine oP rfl ?_ | refine rP rfl (fun _ z => z) ?_ | (refine kO 1 rfl ?_; refine rAdd rfl rfl rfl (by omega) ?_) | (refine kO 3 rfl ?_; first | refine rLdr rfl rfl rfl rfl rfl ?_ | refine rLdb rfl rfl rfl rfl rfl rfl rfl ?_ | refine rLdi rfl rfl rfl rfl rfl rfl (by omega) ?_) | (refine kO 4 rfl ?_; refine rG (fun _ z => z) ?_) | (refine kO 5 rfl ?_; first | refine rIdN rfl rfl rfl rfl rfl rfl rfl (by omega) ?_ | refine rIdoN rfl rfl rfl rfl rfl rfl rfl rfl (by (dsimp only [SC.len]; omega)) ?_) | refine oN ?_ | refine aS ?_ | refine aR ?_ | refine aK ?_ | refine aB ?_ | refine dI (by kernel_rfl) ?_ | refine rG (fun _ z => ⟨(by (omega)), z⟩) ?_ | refine rG (fun _ z => ⟨(by (rfl)), (by (exact lnS (by omega))), z⟩) ?_); (try conv => whnf))
      rw [b6, ← b7, ← b8]
      exact ⟨i + 1, hlt, by omega, canon_auto (by kernel_rfl)⟩
    · repeat ((first | refine oP rfl ?_ | refine rP rfl (fun _ z => z) ?_ | (refine kO 1 rfl ?_; refine rAdd rfl rfl rfl (by omega) ?_) | refine oN ?_ | refine aR ?_ | refine aX ?_); (try conv => whnf))
      obtain rfl : i = B.length := by omega
      refine loop_round ?_
      repeat ((first | refine oP rfl ?_ | (refine kO 1 rfl ?_; refine rG (fun _ z => z) ?_) | (refine kO 3 rfl ?_; refine rG (fun _ z => z) ?_) | (refine kO 4 rfl ?_; refine rG (fun _ z => z) ?_) | refine oN ?_ | refine aS ?_ | refine aR ?_ | refine aX ?_ | refine aT ?_ | refine aC rfl ?_ | refine bF ?_); (try conv => whnf))
      rfl
theorem radial_sat (a b : List Int) (hv : VW a b) : Sat cx.P cx.gl 46 [W2 a b] (.one (W2 (rdIL a b a.length) (rdOL a b a.length))) := by
  have hl := hv.len
  have hle := hv.le
  have hpos := hv.pos
  refine Sat_of_awp (fn := f46) cx_ok (by kernel_rfl) (by kernel_rfl) rfl (by kernel_rfl) (Nat.le_of_ble_eq_true rfl) ?_
  repeat ((first | refine oP rfl ?_ | refine rP rfl (fun _ z => z) ?_ | (refine kO 3 rfl ?_; refine rLdb rfl rfl rfl rfl rfl rfl rfl ?_) | (refine kO 6 rfl ?_; refine rLen rfl rfl rfl rfl rfl rfl ?_) | refine oN ?_ | refine aS ?_ | refine aR ?_ | refine aB ?_ | refine aL ?_); (try conv => whnf))
  refine loop_round ?_
  have d1 := hv.rd_bound 0
  have d2 := hv.a_bound 0
  have d3 := hv.b_bound 0
  unfold rdI rdO at d1
  repeat ((first | refine oP rfl ?_ | refine rP rfl (fun _ z => z) ?_ | (refine kO 1 rfl ?_; first | refine rAdd rfl rfl rfl (by omega) ?_ | refine rSub rfl rfl rfl (by omega) ?_ | refine rMul rfl rfl rfl (by omega) ?_ | refine rG (fun _ z => z) ?_) | (refine kO 2 rfl ?_; refine rNeg rfl rfl (by omega) ?_) | (refine kO 3 rfl ?_; first | refine rLdr rfl rfl rfl rfl rfl ?_ | refine rLdb rfl rfl rfl rfl rfl rfl rfl ?_) | (refine kO 4 rfl ?_; refine rG (fun _ z => z) ?_) | (refine kO 5 rfl ?_; refine rIdN rfl rfl rfl rfl rfl rfl rfl (by omega) ?_) | refine oN ?_ | refine aS ?_ | refine aR ?_ | refine aK ?_ | refine aB ?_ | refine aC rfl ?_ | refine bPt (by omega) ?_ | refine rG (fun _ z => ⟨(by (omega)), z⟩) ?_ | refine rG (fun _ z => ⟨(by (rfl)), (by (((try unfold SC.len); (try unfold SC.uni); (try unfold LIM); (try simp); (try omega); done))), z⟩) ?_); (try conv => whnf))
  refine loop_ind (ι := Nat) (fun i => 1 ≤ i ∧ i ≤ a.length) (fun i => a.length - i) (fun i => ⟨[(1, pP 0), (2, pP 1), (3, pP 2), (9, vL a), (10, vI a.length), (11, vI i)],
    [(0, some (.box 63 [.st (.ints a), .st (.ints b)])), (1, some (.box 42 [.nil, .nil])), (2, some (.box 42 [.own 3, .own 4])), (3, some (.row true 1 (.ints (rdIL a b i)))), (4, some (.row true 1 (.ints (rdOL a b i))))], 5⟩) 1 (canon_auto (by kernel_rfl)) ⟨by omega, by omega⟩ ?_
  clear d1 d2 d3
  rintro i ⟨hi0, hi⟩
  have d1 := hv.rd_bound i
  have d2 := hv.a_bound i
  have d3 := hv.b_bound i
  have d4 := rdIL_len a b i
  have d5 := rdOL_len a b i
  have d6 := rdIL_succ a b i
  have d7 := rdOL_succ a b i
  unfold rdI rdO at d1
  unfold rdI at d6
  unfold rdO at d7
  repeat ((first | refine oP rfl ?_ | (refine kO 1 rfl ?_; refine rG (fun _ z => z) ?_) | refine oN ?_ | refine aS ?_ | refine aR ?_ | refine aC rfl ?_); (try conv => whnf))
  ((refine brp (fun h => ?_) (fun h => ?_)) <;> (try conv => whnf))
  · have hlt : i < a.length := by omega
    repeat ((first | refine oP rfl ?_ | refine rP rfl (fun _ z => z) ?_ | (refine kO 1 rfl ?_; first | refine rAdd rfl rfl rfl (by omega) ?_ | refine rSub rfl rfl rfl (by omega) ?_ | refine rMul rfl rfl rfl (by omega) ?_) | (refine kO 2 rfl ?_; refine rNeg rfl rfl (by omega) ?_) | (refine kO 3 rfl ?_; first | refine rLdr rfl rfl rfl rfl rfl ?_ | refine rLdb rfl rfl rfl rfl rfl rfl rfl ?_) | (refine kO 4 rfl ?_; refine rG (fun _ z => z) ?_) | (refine kO 5 rfl ?_; refine rIdN rfl rfl rfl rfl rfl rfl rfl (by omega) ?_) | refine oN ?_ | refine aS ?_ | refine aR ?_ | refine aK ?_ | refine aB ?_ | refine rG (fun _ z => ⟨(by (omega)), z⟩) ?_ | refine rG (fun _ z => ⟨(by (rfl)), (by (exact lnS (by omega))), z⟩) ?_); (try conv => whnf))
    rw [← d6, ← d7]
    exact ⟨i + 1, ⟨by omega, hlt⟩, by omega, canon_auto (by kernel_rfl)⟩
  · repeat ((first | refine oP rfl ?_ | (refine kO 3 rfl ?_; refine rG (fun _ z => z) ?_) | (refine kO 4 rfl ?_; refine rG (fun _ z => z) ?_) | refine oN ?_ | refine aS ?_ | refine aR ?_ | refine aX ?_ | refine aT ?_); (try conv => whnf))
    obtain rfl : i = a.length := by omega
    rfl
/-- A method that computes forces of valid windows. -/
theorem forces_sat (a b : List Int) (g : FuncId) (r : List Int × List Int) (ha : a.length ≤ maxLen) (hb : b.length ≤ maxLen) (hg : windowErr a b = 0 → Sat cx.P cx.gl g [W2 a b] (.one (W2 r.1 r.2))) :
    Sat cx.P cx.gl 44 [W2 a b, (false, [.fn g [] []])] (.tup (if windowErr a b = 0 then [W2 r.1 r.2, I 0] else [W2 [] [], I (windowErr a b)])) := by
  refine Sat_of_awp (fn := f44) cx_ok (by kernel_rfl) (by kernel_rfl) rfl (by kernel_rfl) (Nat.le_of_ble_eq_true rfl) ?_
  repeat ((first | refine oP rfl ?_ | refine rP rfl (fun _ z => z) ?_ | (refine kO 1 rfl ?_; refine rG (fun _ z => z) ?_) | (refine kO 3 rfl ?_; refine rG (fun _ z => z) ?_) | (refine kO 4 rfl ?_; refine rG (fun _ z => z) ?_) | (refine kO 7 rfl ?_; refine rG (fun _ z => ⟨_, open_sat a b ha hb, z⟩) ?_) | refine oN ?_ | refine aS ?_ | refine aR ?_ | refine aC rfl ?_); (try conv => whnf))
  ((refine brp (fun h => ?_) (fun h => ?_)) <;> (try conv => whnf))
  · repeat ((first | refine oP rfl ?_ | refine rP rfl (fun _ z => z) ?_ | (refine kO 4 rfl ?_; refine rG (fun _ z => z) ?_) | refine oN ?_ | refine aS ?_ | refine aR ?_ | refine aT ?_); (try conv => whnf))
    rw [if_neg h]; rfl
  · have h0 : windowErr a b = 0 := by omega
    repeat ((first | refine oP rfl ?_ | refine rP rfl (fun _ z => z) ?_ | (refine kO 3 rfl ?_; refine rG (fun _ z => z) ?_) | (refine kO 4 rfl ?_; refine rG (fun _ z => z) ?_) | (refine kO 7 rfl ?_; refine rG (fun _ z => ⟨_, hg h0, z⟩) ?_) | refine oN ?_ | refine aS ?_ | refine aR ?_ | refine aK ?_ | refine aT ?_); (try conv => whnf))
    rw [if_pos h0]; rfl
theorem thrustsOf_sat (a b : List Int) (ha : a.length ≤ maxLen) (hb : b.length ≤ maxLen) : Sat cx.P cx.gl 20 [W2 a b] (.tup (if windowErr a b = 0 then [W2 (thL (axL a a b a.length)) (thL (axL b a b a.length)), I 0] else [W2 [] [], I (windowErr a b)])) := by
  have hf := forces_sat a b _ (thL (axL a a b a.length), thL (axL b a b a.length)) ha hb fun h => thrusts_sat a b (windowErr_zero.1 h)
  refine Sat_of_awp (fn := f20) cx_ok (by kernel_rfl) (by kernel_rfl) rfl (by kernel_rfl) (Nat.le_of_ble_eq_true rfl) ?_
  by_cases h0 : windowErr a b = 0
  · rw [if_pos h0] at hf ⊢
    repeat ((first | refine oP rfl ?_ | refine rP rfl (fun _ z => z) ?_ | (refine kO 3 rfl ?_; refine rG (fun _ z => z) ?_) | (refine kO 4 rfl ?_; refine rG (fun _ z => z) ?_) | (refine kO 7 rfl ?_; refine rG (fun _ z => ⟨_, hf, z⟩) ?_) | refine oN ?_ | refine aS ?_ | refine aR ?_ | refine aT ?_); (try conv => whnf))
    rfl
  · rw [if_neg h0] at hf ⊢
    repeat ((first | refine oP rfl ?_ | refine rP rfl (fun _ z => z) ?_ | (refine kO 3 rfl ?_; refine rG (fun _ z => z) ?_) | (refine kO 4 rfl ?_; refine rG (fun _ z => z) ?_) | (refine kO 7 rfl ?_; refine rG (fun _ z => ⟨_, hf, z⟩) ?_) | refine oN ?_ | refine aS ?_ | refine aR ?_ | refine aT ?_); (try conv => whnf))
    rfl
theorem axialOf_sat (a b : List Int) (ha : a.length ≤ maxLen) (hb : b.length ≤ maxLen) : Sat cx.P cx.gl 18 [W2 a b] (.tup (if windowErr a b = 0 then [W2 (axL a a b a.length) (axL b a b a.length), I 0] else [W2 [] [], I (windowErr a b)])) := by
  have hf := forces_sat a b _ (axL a a b a.length, axL b a b a.length) ha hb fun h => axial_sat a b (windowErr_zero.1 h)
  refine Sat_of_awp (fn := f18) cx_ok (by kernel_rfl) (by kernel_rfl) rfl (by kernel_rfl) (Nat.le_of_ble_eq_true rfl) ?_
  by_cases h0 : windowErr a b = 0
  · rw [if_pos h0] at hf ⊢
    repeat ((first | refine oP rfl ?_ | refine rP rfl (fun _ z => z) ?_ | (refine kO 3 rfl ?_; refine rG (fun _ z => z) ?_) | (refine kO 4 rfl ?_; refine rG (fun _ z => z) ?_) | (refine kO 7 rfl ?_; refine rG (fun _ z => ⟨_, hf, z⟩) ?_) | refine oN ?_ | refine aS ?_ | refine aR ?_ | refine aT ?_); (try conv => whnf))
    rfl
  · rw [if_neg h0] at hf ⊢
    repeat ((first | refine oP rfl ?_ | refine rP rfl (fun _ z => z) ?_ | (refine kO 3 rfl ?_; refine rG (fun _ z => z) ?_) | (refine kO 4 rfl ?_; refine rG (fun _ z => z) ?_) | (refine kO 7 rfl ?_; refine rG (fun _ z => ⟨_, hf, z⟩) ?_) | refine oN ?_ | refine aS ?_ | refine aR ?_ | refine aT ?_); (try conv => whnf))
    rfl
theorem radialOf_sat (a b : List Int) (ha : a.length ≤ maxLen) (hb : b.length ≤ maxLen) : Sat cx.P cx.gl 19 [W2 a b] (.tup (if windowErr a b = 0 then [W2 (rdIL a b a.length) (rdOL a b a.length), I 0] else [W2 [] [], I (windowErr a b)])) := by
  have hf := forces_sat a b _ (rdIL a b a.length, rdOL a b a.length) ha hb fun h => radial_sat a b (windowErr_zero.1 h)
  refine Sat_of_awp (fn := f19) cx_ok (by kernel_rfl) (by kernel_rfl) rfl (by kernel_rfl) (Nat.le_of_ble_eq_true rfl) ?_
  by_cases h0 : windowErr a b = 0
  · rw [if_pos h0] at hf ⊢
    repeat ((first | refine oP rfl ?_ | refine rP rfl (fun _ z => z) ?_ | (refine kO 3 rfl ?_; refine rG (fun _ z => z) ?_) | (refine kO 4 rfl ?_; refine rG (fun _ z => z) ?_) | (refine kO 7 rfl ?_; refine rG (fun _ z => ⟨_, hf, z⟩) ?_) | refine oN ?_ | refine aS ?_ | refine aR ?_ | refine aT ?_); (try conv => whnf))
    rfl
  · rw [if_neg h0] at hf ⊢
    repeat ((first | refine oP rfl ?_ | refine rP rfl (fun _ z => z) ?_ | (refine kO 3 rfl ?_; refine rG (fun _ z => z) ?_) | (refine kO 4 rfl ?_; refine rG (fun _ z => z) ?_) | (refine kO 7 rfl ?_; refine rG (fun _ z => ⟨_, hf, z⟩) ?_) | refine oN ?_ | refine aS ?_ | refine aR ?_ | refine aT ?_); (try conv => whnf))
    rfl
end Go.Proofs.Try
