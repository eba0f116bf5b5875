/- Plain facts: a mirrored window. -/
import Derived.Test.YtlbmcaljkjbjpaaM
namespace Go.Plain
theorem sum_rev (l : List Int) : l.reverse.sum = l.sum := by
  induction l with
  | nil => rfl
  | cons x l ih => rw [List.reverse_cons, List.sum_append, ih]; simp; omega
theorem VW.mirror {a b : List Int} (h : VW a b) : VW a.reverse b.reverse :=
  ⟨by simpa using h.len, by simpa using h.pos, by simpa using h.le, fun n hn => h.ra n (by simpa using hn), fun n hn => h.rb n (by simpa using hn), by rw [sum_rev, sum_rev]; exact h.sum⟩
theorem psum_rev {a : List Int} {k : Nat} (hk : k ≤ a.length) : psum a.reverse k = a.sum - psum a (a.length - k) := by
  unfold psum
  rw [List.take_reverse, sum_rev]
  have h := List.take_append_drop (a.length - k) a
  have : a.sum = (a.take (a.length - k)).sum + (a.drop (a.length - k)).sum := by rw [← List.sum_append, h]
  omega
theorem rs_rev {a b : List Int} (h : VW a b) {k : Nat} (hk : k ≤ a.length) : rs a.reverse b.reverse k = -rs a b (a.length - k) := by
  unfold rs
  rw [psum_rev hk, psum_rev (by rw [h.len]; exact hk), h.len]
  have := h.sum
  omega
theorem getD_rev {a : List Int} {j : Nat} (hj : j < a.length) : a.reverse.getD (a.length - 1 - j) 0 = a.getD j 0 := by
  have h1 : a.length - 1 - j < a.length := by omega
  rw [List.getD_eq_getElem?_getD, List.getD_eq_getElem?_getD, List.getElem?_reverse h1]
  congr 2
  omega
theorem ax_rev {t a b : List Int} (h : VW a b) (ht : t.length = a.length) {j : Nat} (hj : j < a.length) : axF t.reverse a.reverse b.reverse (a.length - 1 - j) = -axF t a b j := by
  unfold axF
  have e1 := getD_rev (a := t) (j := j) (by omega)
  rw [ht] at e1
  rw [e1, rs_rev h (by omega), show a.length - 1 - j + 1 = a.length - j by omega, rs_rev h (by omega), show a.length - (a.length - 1 - j) = j + 1 by omega, show a.length - (a.length - j) = j by omega]
  rw [← Int.mul_neg]
  congr 1
  omega
theorem rdI_rev {a b : List Int} (h : VW a b) {j : Nat} (hj : j < a.length) : rdI a.reverse b.reverse (a.length - 1 - j) = rdI a b j := by
  have e2 := getD_rev (a := b) (j := j) (by rw [h.len]; exact hj)
  rw [h.len] at e2
  unfold rdI
  rw [getD_rev hj, e2]
theorem rdO_rev {a b : List Int} (h : VW a b) {j : Nat} (hj : j < a.length) : rdO a.reverse b.reverse (a.length - 1 - j) = rdO a b j := by
  have e2 := getD_rev (a := b) (j := j) (by rw [h.len]; exact hj)
  rw [h.len] at e2
  unfold rdO
  rw [getD_rev hj, e2]
/-- What the law asks of the forces of both windows. -/
structure Mir (n : Nat) (A B X Y : List Int) : Prop where
  la : A.length = n
  lb : B.length = n
  lx : X.length = n
  ly : Y.length = n
  ax : ∀ j : Nat, j < n → B.getD ((n : Int) - 1 - (j : Int)).toNat 0 = -A.getD j 0
  rd : ∀ j : Nat, j < n → Y.getD ((n : Int) - 1 - (j : Int)).toNat 0 = X.getD j 0
  ba : ∀ j : Nat, j < n → -600000 ≤ A.getD j 0 ∧ A.getD j 0 ≤ 600000
theorem mir_in {a b : List Int} (h : VW a b) : Mir a.length (axL a a b a.length) (axL a.reverse a.reverse b.reverse a.length) (rdIL a b a.length) (rdIL a.reverse b.reverse a.length) := by
  refine ⟨axL_len .., axL_len .., rdIL_len .., rdIL_len .., fun j hj => ?_, fun j hj => ?_, fun j hj => ?_⟩
  · rw [show ((a.length : Int) - 1 - (j : Int)).toNat = a.length - 1 - j by omega, axL_getD (by omega), axL_getD hj]; exact ax_rev h rfl hj
  · rw [show ((a.length : Int) - 1 - (j : Int)).toNat = a.length - 1 - j by omega, rdIL_getD (by omega), rdIL_getD hj]; exact rdI_rev h hj
  · rw [axL_getD hj]; exact h.ax_bound h.ra j
theorem mir_out {a b : List Int} (h : VW a b) : Mir a.length (axL b a b a.length) (axL b.reverse a.reverse b.reverse a.length) (rdOL a b a.length) (rdOL a.reverse b.reverse a.length) := by
  refine ⟨axL_len .., axL_len .., rdOL_len .., rdOL_len .., fun j hj => ?_, fun j hj => ?_, fun j hj => ?_⟩
  · rw [show ((a.length : Int) - 1 - (j : Int)).toNat = a.length - 1 - j by omega, axL_getD (by omega), axL_getD hj]; exact ax_rev h h.len hj
  · rw [show ((a.length : Int) - 1 - (j : Int)).toNat = a.length - 1 - j by omega, rdOL_getD (by omega), rdOL_getD hj]; exact rdO_rev h hj
  · rw [axL_getD hj]; exact h.ax_bound h.rb j
end Go.Plain
