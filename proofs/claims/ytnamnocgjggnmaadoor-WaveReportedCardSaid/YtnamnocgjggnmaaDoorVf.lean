/- Parts of the proof, joined. -/
import Derived.Test.YtnamnocgjggnmaaDoorVa
import Derived.Test.YtnamnocgjggnmaaDoorM
import Derived.Test.YtnamnocgjggnmaaDoorVs
import Derived.Test.YtnamnocgjggnmaaDoorMp
import Derived.Test.YtnamnocgjggnmaaDoorWa
namespace Go.Proofs.Tryd
open Go.Fw Go.IntWalk Go.Plain
set_option maxRecDepth 100000
set_option maxHeartbeats 8000000
/-- A record with an error of the recorder. -/
abbrev Rr (l : List Int) (e : Int) : SV := (true, [.ints l, J e])
theorem getD_in {l : List Int} {lo hi : Int} (h : AllIn l lo hi) {i : Nat} (hi' : i < l.length) : lo ≤ l.getD i 0 ∧ l.getD i 0 ≤ hi := h _ (getD_mem hi')
theorem maxL_sat {l : List Int} (h0 : 0 < l.length) (hl : l.length ≤ maxLen) : Sat cx.P cx.gl 121 [L l] (.one (I (pkV l))) := by
  unfold maxLen at hl
  have p1 : pkT l 1 = 0 := by unfold pkT; split <;> rfl
  refine Sat_of_awp (fn := f121) cx_ok (by kernel_rfl) (by kernel_rfl) rfl (by kernel_rfl) (Nat.le_of_ble_eq_true rfl) ?_
  repeat ((first | refine oP rfl ?_ | refine rP rfl (fun _ z => z) ?_ | (refine kO 1 rfl ?_; refine rG (fun _ z => z) ?_) | (refine kO 3 rfl ?_; refine rLdr rfl rfl rfl rfl rfl ?_) | (refine kO 5 rfl ?_; refine rIdN rfl rfl rfl rfl rfl rfl rfl (by omega) ?_) | (refine kO 6 rfl ?_; refine rLen rfl rfl rfl rfl rfl rfl ?_) | refine oN ?_ | refine aS ?_ | refine aR ?_ | refine aK ?_ | refine aB ?_ | refine aC rfl ?_ | refine bPf (by omega) ?_ | refine aL ?_); (try conv => whnf))
  refine loop_ind (ι := Nat) (fun i => 1 ≤ i ∧ i ≤ l.length) (fun i => l.length - i) (fun i => ⟨[(0, vL l), (3, vI (l.getD (pkT l i) 0)), (4, vI i)], [], 0⟩) 1 (canon_auto (by rw [p1]; kernel_rfl)) ⟨Nat.le_refl _, h0⟩ ?_
  rintro i ⟨hi0, hi⟩
  have hs : (if l.getD i 0 > l.getD (pkT l i) 0 then l.getD i 0 else l.getD (pkT l i) 0) = l.getD (pkT l (i + 1)) 0 := by
    show _ = l.getD (if l.getD i 0 > l.getD (pkT l i) 0 then i else pkT l i) 0
    split <;> rfl
  repeat ((first | refine oP rfl ?_ | refine rP rfl (fun _ z => z) ?_ | (refine kO 1 rfl ?_; refine rG (fun _ z => z) ?_) | (refine kO 6 rfl ?_; refine rLen rfl rfl rfl rfl rfl rfl ?_) | refine oN ?_ | refine aS ?_ | refine aR ?_ | refine aC rfl ?_); (try conv => whnf))
  ((refine brp (fun h => ?_) (fun h => ?_)) <;> (try conv => whnf))
  · have hlt : i < l.length := by omega
    repeat ((first | refine oP rfl ?_ | refine rP rfl (fun _ z => z) ?_ | (refine kO 1 rfl ?_; refine rAdd rfl rfl rfl (by omega) ?_) | (refine kO 3 rfl ?_; refine rLdr rfl rfl rfl rfl rfl ?_) | (refine kO 5 rfl ?_; refine rIdN rfl rfl rfl rfl rfl rfl rfl (by omega) ?_) | (refine kO 6 rfl ?_; refine rG (fun _ z => z) ?_) | refine oN ?_ | refine aS ?_ | refine aR ?_ | refine aK ?_ | refine aB ?_); (try conv => whnf))
    exact ⟨i + 1, ⟨by omega, hlt⟩, by omega, canon_auto (by rw [← hs]; kernel_rfl)⟩
  · obtain rfl : i = l.length := by omega
    repeat ((first | refine oP rfl ?_ | refine rP rfl (fun _ z => z) ?_ | refine oN ?_ | refine aS ?_ | refine aR ?_ | refine aX ?_ | refine aT ?_); (try conv => whnf))
    (rfl)
theorem indexMax_sat {l : List Int} (h0 : 0 < l.length) (hl : l.length ≤ maxLen) : Sat cx.P cx.gl 122 [L l, I (pkV l)] (.one (I (pk l : Nat))) := by
  unfold maxLen at hl
  have hp : pk l < l.length := pkT_lt h0
  refine Sat_of_awp (fn := f122) cx_ok (by kernel_rfl) (by kernel_rfl) rfl (by kernel_rfl) (Nat.le_of_ble_eq_true rfl) ?_
  repeat ((first | refine oP rfl ?_ | refine rP rfl (fun _ z => z) ?_ | (refine kO 6 rfl ?_; refine rLen rfl rfl rfl rfl rfl rfl ?_) | refine oN ?_ | refine aS ?_ | refine aR ?_ | refine aB ?_ | refine aL ?_); (try conv => whnf))
  refine loop_ind (ι := Nat) (fun i => i ≤ pk l) (fun i => l.length - i) (fun i => ⟨[(0, vL l), (1, vI (pkV l)), (7, vI l.length), (8, vI i)], [], 0⟩) 0 (canon_auto (by kernel_rfl)) (Nat.zero_le _) ?_
  intro i hi
  by_cases he : i = pk l
  · subst he
    have : l.getD (pk l) 0 = pkV l := rfl
    repeat ((first | refine oP rfl ?_ | refine rP rfl (fun _ z => z) ?_ | (refine kO 1 rfl ?_; refine rG (fun _ z => z) ?_) | (refine kO 3 rfl ?_; refine rLdr rfl rfl rfl rfl rfl ?_) | (refine kO 5 rfl ?_; refine rIdN rfl rfl rfl rfl rfl rfl rfl (by omega) ?_) | refine oN ?_ | refine aS ?_ | refine aR ?_ | refine aK ?_ | refine aB ?_ | refine aT ?_ | refine aC rfl ?_ | refine bPt (by omega) ?_); (try conv => whnf))
    (done)
  · have hlt : i < pk l := by omega
    have : l.getD i 0 < pkV l := pkT_first hlt
    repeat ((first | refine oP rfl ?_ | refine rP rfl (fun _ z => z) ?_ | (refine kO 1 rfl ?_; first | refine rAdd rfl rfl rfl (by omega) ?_ | refine rG (fun _ z => z) ?_) | (refine kO 3 rfl ?_; refine rLdr rfl rfl rfl rfl rfl ?_) | (refine kO 5 rfl ?_; refine rIdN rfl rfl rfl rfl rfl rfl rfl (by omega) ?_) | refine oN ?_ | refine aS ?_ | refine aR ?_ | refine aK ?_ | refine aB ?_ | refine aC rfl ?_ | refine bPt (by omega) ?_ | refine bPf (by omega) ?_); (try conv => whnf))
    exact ⟨i + 1, hlt, by omega, canon_auto (by kernel_rfl)⟩
theorem pkV_in {l : List Int} (h0 : 0 < l.length) (h : AllIn l (-4096) 4096) : -4096 ≤ pkV l ∧ pkV l ≤ 4096 := getD_in h (pkT_lt h0)
theorem peak8_sat {l : List Int} {e : Int} (h0 : 0 < l.length) (hl : l.length ≤ maxLen) (h : AllIn l (-4096) 4096) (he : 0 ≤ e ∧ e ≤ 1000) : Sat cx.P cx.gl 85 [Rr l e] (.tup [I (pk l : Nat), F2 (pkV l - e) (pkV l + e)]) := by
  have hv := pkV_in h0 h
  have g1 := maxL_sat h0 hl
  have g2 := indexMax_sat h0 hl
  refine Sat_of_awp (fn := f85) cx_ok (by kernel_rfl) (by kernel_rfl) rfl (by kernel_rfl) (Nat.le_of_ble_eq_true rfl) ?_
  repeat ((first | refine oP rfl ?_ | refine rP rfl (fun _ z => z) ?_ | (refine kO 1 rfl ?_; first | refine rAdd rfl rfl rfl (by omega) ?_ | refine rSub rfl rfl rfl (by omega) ?_) | (refine kO 3 rfl ?_; refine rLdb rfl rfl rfl rfl rfl rfl rfl ?_) | (refine kO 4 rfl ?_; refine rG (fun _ z => z) ?_) | (refine kO 7 rfl ?_; first | refine rG (fun _ z => ⟨_, g1, z⟩) ?_ | refine rG (fun _ z => ⟨_, g2, z⟩) ?_) | refine oN ?_ | refine aS ?_ | refine aR ?_ | refine aT ?_ | refine dI (by kernel_rfl) ?_); (try conv => whnf))
  (rfl)
theorem indexFuncM_sat (l : List Int) (g : FuncId) (first : List (Bool × List SC)) (caps : List (List SC)) (p : Int → Bool) (hp : ∀ n ∈ l, Sat cx.P cx.gl g (first ++ [I n] ++ caps.map fun cs => (false, [.ref cs])) (.one (Bo (p n)))) (hl : l.length ≤ maxLen) :
    Sat cx.P cx.gl 128 [L l, (false, [.fn g first caps])] (.one (I (fF p l 0))) := by
  unfold maxLen at hl
  refine Sat_of_awp (fn := f128) cx_ok (by kernel_rfl) (by kernel_rfl) rfl (by kernel_rfl) (Nat.le_of_ble_eq_true rfl) ?_
  repeat ((first | refine oP rfl ?_ | refine rP rfl (fun _ z => z) ?_ | (refine kO 6 rfl ?_; refine rLen rfl rfl rfl rfl rfl rfl ?_) | refine oN ?_ | refine aS ?_ | refine aR ?_ | refine aB ?_ | refine aL ?_); (try conv => whnf))
  refine loop_ind (ι := Nat) (fun i => i ≤ l.length ∧ fF p l 0 = fF p l i) (fun i => l.length - i) (fun i => ⟨[(0, vL l), (1, some (.val (false, [.st (.fn g first caps)]))), (7, vI l.length), (8, vI i)], [], 0⟩) 0 (canon_auto (by kernel_rfl)) ⟨Nat.zero_le _, rfl⟩ ?_
  rintro i ⟨hi, hf⟩
  repeat ((first | refine oP rfl ?_ | (refine kO 1 rfl ?_; refine rG (fun _ z => z) ?_) | refine oN ?_ | refine aS ?_ | refine aR ?_ | refine aC rfl ?_); (try conv => whnf))
  ((refine brp (fun h => ?_) (fun h => ?_)) <;> (try conv => whnf)) <;> (repeat ((first | refine oP rfl ?_ | refine rP rfl (fun _ z => z) ?_ | (refine kO 3 rfl ?_; refine rLdr rfl rfl rfl rfl rfl ?_) | (refine kO 5 rfl ?_; refine rIdN rfl rfl rfl rfl rfl rfl rfl (by omega) ?_) | refine oN ?_ | refine aS ?_ | refine aR ?_ | refine aK ?_ | refine aX ?_ | refine aB ?_ | refine aT ?_); (try conv => whnf)))
  · have hlt : i < l.length := by omega
    have hc := hp _ (getD_mem (d := 0) hlt)
    rw [fF_step hlt] at hf
    repeat ((first | (refine kO 7 rfl ?_; refine rG (fun _ z => ⟨_, hc, z⟩) ?_) | refine oN ?_ | refine aC rfl ?_); (try conv => whnf))
    ((refine brp (fun h => ?_) (fun h => ?_)) <;> (try conv => whnf)) <;> (repeat ((first | refine oP rfl ?_ | refine rP rfl (fun _ z => z) ?_ | (refine kO 1 rfl ?_; refine rAdd rfl rfl rfl (by omega) ?_) | refine oN ?_ | refine aS ?_ | refine aR ?_ | refine aK ?_ | refine aT ?_); (try conv => whnf)))
    · rw [hf, if_pos h]; (done)
    · rw [if_neg h] at hf
      exact ⟨i + 1, ⟨hlt, hf⟩, by omega, canon_auto (by kernel_rfl)⟩
  · obtain rfl : i = l.length := by omega
    rw [hf, fF_end]; (done)
theorem fF_drop (p : Int → Bool) (l : List Int) (a : Nat) : fF p l a = if fF p (l.drop a) 0 ≥ 0 then (a : Int) + fF p (l.drop a) 0 else -1 := by
  unfold fF
  rw [List.drop_zero]
  by_cases h : (l.drop a).any p = true
  · rw [if_pos h, if_pos h, if_pos (by omega)]; omega
  · rw [if_neg h, if_neg h, if_neg (by omega)]
theorem from_sat (l : List Int) (e : Int) (a : Nat) (g : FuncId) (first : List (Bool × List SC)) (caps : List (List SC)) (p : Int → Bool) (ha : a ≤ l.length) (hp : ∀ n ∈ l, Sat cx.P cx.gl g (first ++ [I n] ++ caps.map fun cs => (false, [.ref cs])) (.one (Bo (p n)))) (hl : l.length ≤ maxLen) :
    Sat cx.P cx.gl 123 [Rr l e, I (a : Nat), (false, [.fn g first caps])] (.one (I (fF p l a))) := by
  have hld : (l.drop a).length ≤ maxLen := by rw [List.length_drop]; omega
  have c := indexFuncM_sat (l.drop a) g first caps p (fun n hn => hp n (List.mem_of_mem_drop hn)) hld
  have c' : Sat cx.P cx.gl 128 [L (l.drop (a : Int).toNat), (false, [.fn g first caps])] (.one (I (fF p (l.drop a) 0))) := c
  rw [fF_drop]
  have hb := fF_bound p (l.drop a) (Nat.zero_le _)
  rw [List.length_drop] at hb
  unfold maxLen at hl
  refine Sat_of_awp (fn := f123) cx_ok (by kernel_rfl) (by kernel_rfl) rfl (by kernel_rfl) (Nat.le_of_ble_eq_true rfl) ?_
  repeat ((first | refine oP rfl ?_ | refine rP rfl (fun _ z => z) ?_ | (refine kO 1 rfl ?_; refine rG (fun _ z => z) ?_) | (refine kO 3 rfl ?_; refine rLdb rfl rfl rfl rfl rfl rfl rfl ?_) | (refine kO 7 rfl ?_; refine rG (fun _ z => ⟨_, c', z⟩) ?_) | (refine kO 8 rfl ?_; refine rSlL rfl rfl rfl rfl rfl rfl rfl (by omega) ?_) | refine oN ?_ | refine aS ?_ | refine aR ?_ | refine aC rfl ?_); (try conv => whnf))
  ((refine brp (fun h => ?_) (fun h => ?_)) <;> (try conv => whnf))
  · repeat ((first | refine oP rfl ?_ | refine rP rfl (fun _ z => z) ?_ | (refine kO 1 rfl ?_; refine rAdd rfl rfl rfl (by omega) ?_) | refine oN ?_ | refine aS ?_ | refine aR ?_ | refine aT ?_); (try conv => whnf))
    rw [if_pos h]; (done)
  · repeat ((first | refine oP rfl ?_ | refine rP rfl (fun _ z => z) ?_ | refine oN ?_ | refine aS ?_ | refine aR ?_ | refine aK ?_ | refine aT ?_); (try conv => whnf))
    rw [if_neg h]; (done)
/-! ### Levels -/
def lvLo (e t x : Int) : Int → Bool := fun n => decide (10 * (n + e) ≥ t * x)
def lvHi (e t x : Int) : Int → Bool := fun n => decide (10 * (n - e) ≥ t * x)
def hfLo (e x : Int) : Int → Bool := fun n => decide (2 * (n - e) ≤ x)
def hfHi (e x : Int) : Int → Bool := fun n => decide (2 * (n + e) ≤ x)
abbrev smp (n : Int) : Prop := -10000 ≤ n ∧ n ≤ 10000
theorem tx_mid {t x : Int} (ht : 0 ≤ t ∧ t ≤ 10) (hx : smp x) : -100000 ≤ t * x ∧ t * x ≤ 100000 := mulS (A := 10) (B := 10000) (by omega) hx (by omega)
theorem level1_sat (n : Int) (l : List Int) (e t x y : Int) (hn : smp n) (he : 0 ≤ e ∧ e ≤ 1000) (ht : 0 ≤ t ∧ t ≤ 10) (hx : smp x) : Sat cx.P cx.gl 124 [I n, (false, [.ref [.ints l, J e]]), (false, [.ref [J t]]), (false, [.ref [J x, J y]])] (.one (Bo (lvLo e t x n))) := by
  have := tx_mid ht hx
  refine Sat_of_awp (fn := f124) cx_ok (by kernel_rfl) (by kernel_rfl) rfl (by kernel_rfl) (Nat.le_of_ble_eq_true rfl) ?_
  repeat ((first | refine oP rfl ?_ | refine rP rfl (fun _ z => z) ?_ | (refine kO 1 rfl ?_; first | refine rAdd rfl rfl rfl (by omega) ?_ | refine rMul rfl rfl rfl (by omega) ?_ | refine rG (fun _ z => z) ?_) | (refine kO 3 rfl ?_; refine rLdr rfl rfl rfl rfl rfl ?_) | refine oN ?_ | refine aS ?_ | refine aR ?_ | refine aT ?_); (try conv => whnf))
  (rfl)
theorem level2_sat (n : Int) (l : List Int) (e t x y : Int) (hn : smp n) (he : 0 ≤ e ∧ e ≤ 1000) (ht : 0 ≤ t ∧ t ≤ 10) (hy : smp y) : Sat cx.P cx.gl 125 [I n, (false, [.ref [.ints l, J e]]), (false, [.ref [J t]]), (false, [.ref [J x, J y]])] (.one (Bo (lvHi e t y n))) := by
  have := tx_mid ht hy
  refine Sat_of_awp (fn := f125) cx_ok (by kernel_rfl) (by kernel_rfl) rfl (by kernel_rfl) (Nat.le_of_ble_eq_true rfl) ?_
  repeat ((first | refine oP rfl ?_ | refine rP rfl (fun _ z => z) ?_ | (refine kO 1 rfl ?_; first | refine rSub rfl rfl rfl (by omega) ?_ | refine rMul rfl rfl rfl (by omega) ?_ | refine rG (fun _ z => z) ?_) | (refine kO 3 rfl ?_; refine rLdr rfl rfl rfl rfl rfl ?_) | refine oN ?_ | refine aS ?_ | refine aR ?_ | refine aT ?_); (try conv => whnf))
  (rfl)
theorem half1_sat (n : Int) (l : List Int) (e x y : Int) (hn : smp n) (he : 0 ≤ e ∧ e ≤ 1000) : Sat cx.P cx.gl 126 [I n, (false, [.ref [.ints l, J e]]), (false, [.ref [J x, J y]])] (.one (Bo (hfLo e y n))) := by
  refine Sat_of_awp (fn := f126) cx_ok (by kernel_rfl) (by kernel_rfl) rfl (by kernel_rfl) (Nat.le_of_ble_eq_true rfl) ?_
  repeat ((first | refine oP rfl ?_ | refine rP rfl (fun _ z => z) ?_ | (refine kO 1 rfl ?_; first | refine rSub rfl rfl rfl (by omega) ?_ | refine rMul rfl rfl rfl (by omega) ?_ | refine rG (fun _ z => z) ?_) | (refine kO 3 rfl ?_; refine rLdr rfl rfl rfl rfl rfl ?_) | refine oN ?_ | refine aS ?_ | refine aR ?_ | refine aT ?_); (try conv => whnf))
  (rfl)
theorem half2_sat (n : Int) (l : List Int) (e x y : Int) (hn : smp n) (he : 0 ≤ e ∧ e ≤ 1000) : Sat cx.P cx.gl 127 [I n, (false, [.ref [.ints l, J e]]), (false, [.ref [J x, J y]])] (.one (Bo (hfHi e x n))) := by
  refine Sat_of_awp (fn := f127) cx_ok (by kernel_rfl) (by kernel_rfl) rfl (by kernel_rfl) (Nat.le_of_ble_eq_true rfl) ?_
  repeat ((first | refine oP rfl ?_ | refine rP rfl (fun _ z => z) ?_ | (refine kO 1 rfl ?_; first | refine rAdd rfl rfl rfl (by omega) ?_ | refine rMul rfl rfl rfl (by omega) ?_ | refine rG (fun _ z => z) ?_) | (refine kO 3 rfl ?_; refine rLdr rfl rfl rfl rfl rfl ?_) | refine oN ?_ | refine aS ?_ | refine aR ?_ | refine aT ?_); (try conv => whnf))
  (rfl)
theorem level_sat {l : List Int} {e t x y : Int} (hl : l.length ≤ maxLen) (h : AllIn l (-4096) 4096) (he : 0 ≤ e ∧ e ≤ 1000) (ht : 0 ≤ t ∧ t ≤ 10) (hx : smp x) (hy : smp y) : Sat cx.P cx.gl 86 [Rr l e, I t, F2 x y] (.one (F2 (fF (lvLo e t x) l 0) (fF (lvHi e t y) l 0))) := by
  have c1 := from_sat l e 0 124 [] [[.ints l, J e], [J t], [J x, J y]] (lvLo e t x) (Nat.zero_le _) (fun n hn => level1_sat n l e t x y (by have := h n hn; omega) he ht hx) hl
  have c2 := from_sat l e 0 125 [] [[.ints l, J e], [J t], [J x, J y]] (lvHi e t y) (Nat.zero_le _) (fun n hn => level2_sat n l e t x y (by have := h n hn; omega) he ht hy) hl
  have c1' : Sat cx.P cx.gl 123 [Rr l e, I 0, (false, [.fn 124 [] [[.ints l, J e], [J t], [J x, J y]]])] (.one (I (fF (lvLo e t x) l 0))) := c1
  have c2' : Sat cx.P cx.gl 123 [Rr l e, I 0, (false, [.fn 125 [] [[.ints l, J e], [J t], [J x, J y]]])] (.one (I (fF (lvHi e t y) l 0))) := c2
  refine Sat_of_awp (fn := f86) cx_ok (by kernel_rfl) (by kernel_rfl) rfl (by kernel_rfl) (Nat.le_of_ble_eq_true rfl) ?_
  repeat ((first | refine oP rfl ?_ | refine rP rfl (fun _ z => z) ?_ | (refine kO 3 rfl ?_; refine rG (fun _ z => z) ?_) | (refine kO 4 rfl ?_; refine rG (fun _ z => z) ?_) | (refine kO 7 rfl ?_; first | refine rG (fun _ z => ⟨_, c1', z⟩) ?_ | refine rG (fun _ z => ⟨_, c2', z⟩) ?_) | refine oN ?_ | refine aSs ?_ | refine aR ?_ | refine aT ?_ | refine dI (by kernel_rfl) ?_); (try conv => whnf))
  (rfl)
theorem half_sat {l : List Int} {e x y : Int} {a : Nat} (ha : a < l.length) (hl : l.length ≤ maxLen) (h : AllIn l (-4096) 4096) (he : 0 ≤ e ∧ e ≤ 1000) : Sat cx.P cx.gl 87 [Rr l e, I (a : Nat), F2 x y] (.one (F2 (fF (hfLo e y) l (a + 1)) (fF (hfHi e x) l (a + 1)))) := by
  have c1 := from_sat l e (a + 1) 126 [] [[.ints l, J e], [J x, J y]] (hfLo e y) ha (fun n hn => half1_sat n l e x y (by have := h n hn; omega) he) hl
  have c2 := from_sat l e (a + 1) 127 [] [[.ints l, J e], [J x, J y]] (hfHi e x) ha (fun n hn => half2_sat n l e x y (by have := h n hn; omega) he) hl
  unfold maxLen at hl
  rw [Int.natCast_add, Int.natCast_one] at c1 c2
  refine Sat_of_awp (fn := f87) cx_ok (by kernel_rfl) (by kernel_rfl) rfl (by kernel_rfl) (Nat.le_of_ble_eq_true rfl) ?_
  repeat ((first | refine oP rfl ?_ | refine rP rfl (fun _ z => z) ?_ | (refine kO 1 rfl ?_; refine rAdd rfl rfl rfl (by omega) ?_) | (refine kO 3 rfl ?_; refine rG (fun _ z => z) ?_) | (refine kO 4 rfl ?_; refine rG (fun _ z => z) ?_) | (refine kO 7 rfl ?_; first | refine rG (fun _ z => ⟨_, c1, z⟩) ?_ | refine rG (fun _ z => ⟨_, c2, z⟩) ?_) | refine oN ?_ | refine aSs ?_ | refine aR ?_ | refine aT ?_ | refine dI (by kernel_rfl) ?_); (try conv => whnf))
  (rfl)
end Go.Proofs.Tryd

namespace Go.Proofs.Tryd
open Go.Fw Go.IntWalk Go.Plain
set_option maxRecDepth 100000
set_option maxHeartbeats 8000000
theorem recErr_zero {st : Int} {l : List Int} (h : recErr st l = 0) : (1 ≤ st ∧ st ≤ 1000000) ∧ 3 ≤ l.length ∧ l.length ≤ 64 ∧ AllIn l (-4096) 4096 := by
  unfold recErr at h
  repeat' split at h
  all_goals first | omega | exact ⟨by assumption, by assumption, by assumption, by assumption⟩
def bothErr (e : Int) (q : Sp) (ch : List Sp) (st : Int) (l : List Int) : Int := if rulesErr e q ch ≠ 0 then rulesErr e q ch else recErr st l
theorem bothErr_zero {e : Int} {q : Sp} {ch : List Sp} {st : Int} {l : List Int} (h : bothErr e q ch st l = 0) : rulesErr e q ch = 0 ∧ recErr st l = 0 := by
  unfold bothErr at h
  split at h <;> omega
theorem bothErr_sat (e : Int) (q : Sp) (ch : List Sp) (st : Int) (l : List Int) (hq : SpI q) (hch : ∀ s ∈ ch, SpI s) (hl : l.length ≤ maxLen) : Sat cx.P cx.gl 26 [Ru e q ch, Rc st l] (.one (I (bothErr e q ch st l))) := by
  have s1 := refRulesErr_sat e q ch hq hch
  have s2 := refRecordErr_sat st l hl
  unfold bothErr
  by_cases h : rulesErr e q ch = 0
  · rw [if_neg (by omega)]
    rw [h] at s1
    refine Sat_of_awp (fn := f26) cx_ok (by kernel_rfl) (by kernel_rfl) rfl (by kernel_rfl) (Nat.le_of_ble_eq_true rfl) ?_
    repeat ((first | refine oP rfl ?_ | refine rP rfl (fun _ z => z) ?_ | (refine kO 1 rfl ?_; refine rG (fun _ z => z) ?_) | (refine kO 3 rfl ?_; refine rG (fun _ z => z) ?_) | (refine kO 7 rfl ?_; first | refine rG (fun _ z => ⟨_, s1, z⟩) ?_ | refine rG (fun _ z => ⟨_, s2, z⟩) ?_) | refine oN ?_ | refine aS ?_ | refine aR ?_ | refine aK ?_ | refine aT ?_ | refine aC rfl ?_ | refine bF ?_); (try conv => whnf))
    (rfl)
  · rw [if_pos h]
    generalize rulesErr e q ch = z at *
    refine Sat_of_awp (fn := f26) cx_ok (by kernel_rfl) (by kernel_rfl) rfl (by kernel_rfl) (Nat.le_of_ble_eq_true rfl) ?_
    repeat ((first | refine oP rfl ?_ | refine rP rfl (fun _ z => z) ?_ | (refine kO 1 rfl ?_; refine rG (fun _ z => z) ?_) | (refine kO 3 rfl ?_; refine rG (fun _ z => z) ?_) | (refine kO 7 rfl ?_; refine rG (fun _ z => ⟨_, s1, z⟩) ?_) | refine oN ?_ | refine aS ?_ | refine aR ?_ | refine aT ?_ | refine aC rfl ?_ | refine bPt (by omega) ?_); (try conv => whnf))
    (rfl)
theorem open8_sat (e : Int) (q : Sp) (ch : List Sp) (st : Int) (l : List Int) (hq : SpI q) (hch : ∀ s ∈ ch, SpI s) (hc : ch.length ≤ 4294967296) (hl : l.length ≤ maxLen) : Sat cx.P cx.gl 84 [Ru e q ch, Rc st l] (.tup [Rr l e, I (bothErr e q ch st l)]) := by
  have s1 := checkRules_sat e q ch hq hch hc
  have s2 := checkRecord_sat st l hl
  have f := fs2 (rulesErr e q ch) (recErr st l)
  rw [show (if rulesErr e q ch ≠ 0 then rulesErr e q ch else recErr st l) = bothErr e q ch st l from rfl] at f
  rw [← f]
  refine Sat_of_awp (fn := f84) cx_ok (by kernel_rfl) (by kernel_rfl) rfl (by kernel_rfl) (Nat.le_of_ble_eq_true rfl) ?_
  repeat ((first | refine oP rfl ?_ | refine rP rfl (fun _ z => z) ?_ | (refine kO 3 rfl ?_; first | refine rLdb rfl rfl rfl rfl rfl rfl rfl ?_ | refine rG (fun _ z => z) ?_) | (refine kO 4 rfl ?_; refine rG (fun _ z => z) ?_) | (refine kO 7 rfl ?_; first | refine rG (fun _ z => ⟨_, s1, z⟩) ?_ | refine rG (fun _ z => ⟨_, s2, z⟩) ?_ | refine rG (fun _ z => ⟨_, wFirst_fs _ (Nat.le_of_ble_eq_true rfl), z⟩) ?_) | refine oN ?_ | refine aS ?_ | refine aR ?_ | refine aT ?_ | refine dI (by kernel_rfl) ?_); (try conv => whnf))
  (rfl)
abbrev bRu (e : Int) (q : Sp) (ch : List Sp) : Option Blk := some (.box 28 [.st (J e), .st (J q.1), .st (J q.2.1), .st (J q.2.2.1), .st (J q.2.2.2), .st (.view (ch.map sp))])
abbrev bRc (st : Int) (l : List Int) : Option Blk := some (.box 31 [.st (J st), .st (.ints l)])
abbrev bRg (a b : Int) : Option Blk := some (.box 49 [.st (J a), .st (J b)])
theorem refPeak8_sat (e : Int) (q : Sp) (ch : List Sp) (st : Int) (l : List Int) (he : 0 ≤ e ∧ e ≤ 1000) (h0 : 0 < l.length) (hl : l.length ≤ 64) (hA : AllIn l (-4096) 4096) : Sat cx.P cx.gl 37 [Ru e q ch, Rc st l] (.tup [I (pk l : Nat), F2 (pkV l - e) (pkV l + e)]) := by
  refine Sat_of_awp (fn := f37) cx_ok (by kernel_rfl) (by kernel_rfl) rfl (by kernel_rfl) (Nat.le_of_ble_eq_true rfl) ?_
  repeat ((first | refine oP rfl ?_ | refine rP rfl (fun _ z => z) ?_ | refine oN ?_ | refine aS ?_ | refine aR ?_ | refine aB ?_ | refine aL ?_); (try conv => whnf))
  refine loop_ind (ι := Nat) (fun i => i ≤ l.length) (fun i => l.length - i) (fun i => ⟨[(2, pP 0), (3, pP 1), (5, pP 2), (6, vI (pkT l i : Nat)), (7, vI i)], [(0, bRu e q ch), (1, bRc st l), (2, bRg 0 0)], 3⟩) 0 (canon_auto (by kernel_rfl)) (Nat.zero_le _) ?_
  intro i hi
  have hp : pkT l i < l.length := by
    by_cases e0 : i = 0
    · subst e0; exact h0
    · have := pkT_lt (l := l) (i := i) (by omega); omega
  repeat ((first | refine oP rfl ?_ | refine rP rfl (fun _ z => z) ?_ | (refine kO 1 rfl ?_; refine rG (fun _ z => z) ?_) | (refine kO 3 rfl ?_; refine rLdb rfl rfl rfl rfl rfl rfl rfl ?_) | (refine kO 6 rfl ?_; refine rLen rfl rfl rfl rfl rfl rfl ?_) | refine oN ?_ | refine aS ?_ | refine aR ?_ | refine aC rfl ?_); (try conv => whnf))
  ((refine brp (fun h => ?_) (fun h => ?_)) <;> (try conv => whnf))
  · have hlt : i < l.length := by omega
    repeat ((first | refine oP rfl ?_ | refine rP rfl (fun _ z => z) ?_ | (refine kO 1 rfl ?_; refine rG (fun _ z => z) ?_) | (refine kO 3 rfl ?_; first | refine rLdr rfl rfl rfl rfl rfl ?_ | refine rLdb rfl rfl rfl rfl rfl rfl rfl ?_) | (refine kO 5 rfl ?_; refine rIdN rfl rfl rfl rfl rfl rfl rfl (by omega) ?_) | refine oN ?_ | refine aS ?_ | refine aR ?_ | refine aK ?_ | refine aB ?_ | refine aC rfl ?_ | refine dI (by kernel_rfl) ?_); (try conv => whnf))
    ((refine brp (fun h => ?_) (fun h => ?_)) <;> (try conv => whnf))
    · have hs : pkT l (i + 1) = i := if_pos h
      repeat ((first | refine oP rfl ?_ | refine rP rfl (fun _ z => z) ?_ | (refine kO 1 rfl ?_; refine rAdd rfl rfl rfl (by omega) ?_) | refine oN ?_ | refine aR ?_); (try conv => whnf))
      exact ⟨i + 1, hlt, by omega, canon_auto (by rw [hs]; kernel_rfl)⟩
    · have hs : pkT l (i + 1) = pkT l i := if_neg h
      repeat ((first | refine oP rfl ?_ | refine rP rfl (fun _ z => z) ?_ | (refine kO 1 rfl ?_; refine rAdd rfl rfl rfl (by omega) ?_) | refine oN ?_ | refine aR ?_ | refine aK ?_); (try conv => whnf))
      exact ⟨i + 1, hlt, by omega, canon_auto (by rw [hs]; kernel_rfl)⟩
  · obtain rfl : i = l.length := by omega
    have hb := getD_in hA hp
    repeat ((first | refine oP rfl ?_ | refine rP rfl (fun _ z => z) ?_ | (refine kO 1 rfl ?_; first | refine rAdd rfl rfl rfl (by omega) ?_ | refine rSub rfl rfl rfl (by omega) ?_) | (refine kO 3 rfl ?_; first | refine rLdr rfl rfl rfl rfl rfl ?_ | refine rLdb rfl rfl rfl rfl rfl rfl rfl ?_) | (refine kO 4 rfl ?_; refine rG (fun _ z => z) ?_) | (refine kO 5 rfl ?_; refine rIdN rfl rfl rfl rfl rfl rfl rfl (by omega) ?_) | refine oN ?_ | refine aS ?_ | refine aR ?_ | refine aX ?_ | refine aT ?_ | refine dI (by kernel_rfl) ?_); (try conv => whnf))
    (rfl)
theorem refLevel_sat (e : Int) (q : Sp) (ch : List Sp) (st : Int) (l : List Int) (t x y : Int) (he : 0 ≤ e ∧ e ≤ 1000) (hl : l.length ≤ 64) (h : AllIn l (-4096) 4096) (ht : 0 ≤ t ∧ t ≤ 10) (hx : smp x) (hy : smp y) : Sat cx.P cx.gl 95 [Ru e q ch, Rc st l, I t, F2 x y] (.one (F2 (fF (lvLo e t x) l 0) (fF (lvHi e t y) l 0))) := by
  have m1 := tx_mid ht hx
  have m2 := tx_mid ht hy
  refine Sat_of_awp (fn := f95) cx_ok (by kernel_rfl) (by kernel_rfl) rfl (by kernel_rfl) (Nat.le_of_ble_eq_true rfl) ?_
  repeat ((first | refine oP rfl ?_ | refine rP rfl (fun _ z => z) ?_ | (refine kO 1 rfl ?_; refine rSub rfl rfl rfl (by omega) ?_) | (refine kO 3 rfl ?_; refine rLdb rfl rfl rfl rfl rfl rfl rfl ?_) | (refine kO 4 rfl ?_; refine rG (fun _ z => z) ?_) | (refine kO 6 rfl ?_; refine rLen rfl rfl rfl rfl rfl rfl ?_) | refine oN ?_ | refine aS ?_ | refine aR ?_ | refine aB ?_ | refine aL ?_); (try conv => whnf))
  refine loop_ind (ι := Int) (fun i => -1 ≤ i ∧ i < l.length) (fun i => (i + 1).toNat) (fun i => ⟨[(2, vI t), (4, pP 0), (5, pP 1), (7, pP 2), (8, pP 3), (9, pP 4), (10, vI i)], [(0, bRu e q ch), (1, bRc st l), (2, bRg x y), (3, bRg 0 0), (4, bRg (fF (lvLo e t x) l (i + 1).toNat) (fF (lvHi e t y) l (i + 1).toNat))], 5⟩) ((l.length : Int) - 1) (canon_auto (by rw [show ((l.length : Int) - 1 + 1).toNat = l.length by omega, fF_end, fF_end]; kernel_rfl)) ⟨by omega, by omega⟩ ?_
  rintro i ⟨hi0, hi⟩
  by_cases hz : 0 ≤ i
  · have hlt : i.toNat < l.length := by omega
    have hb := getD_in h hlt
    have s1 := fF_step (p := lvLo e t x) hlt
    have s2 := fF_step (p := lvHi e t y) hlt
    rw [show i.toNat + 1 = (i + 1).toNat by omega, show ((i.toNat : Nat) : Int) = i by omega] at s1 s2
    unfold lvLo at s1
    unfold lvHi at s2
    simp only [decide_eq_true_eq] at s1 s2
    by_cases k1 : 10 * (l.getD i.toNat 0 + e) ≥ t * x
    · rw [if_pos k1] at s1
      by_cases k2 : 10 * (l.getD i.toNat 0 - e) ≥ t * y
      · rw [if_pos k2] at s2
        repeat ((first | refine oP rfl ?_ | refine rP rfl (fun _ z => z) ?_ | (refine kO 1 rfl ?_; first | refine rAdd rfl rfl rfl (by omega) ?_ | refine rSub rfl rfl rfl (by omega) ?_ | refine rMul rfl rfl rfl (by omega) ?_ | refine rG (fun _ z => z) ?_) | (refine kO 3 rfl ?_; first | refine rLdr rfl rfl rfl rfl rfl ?_ | refine rLdb rfl rfl rfl rfl rfl rfl rfl ?_) | (refine kO 4 rfl ?_; refine rG (fun _ z => z) ?_) | (refine kO 5 rfl ?_; refine rIdx rfl rfl rfl rfl rfl rfl rfl (by omega) ?_) | refine oN ?_ | refine aS ?_ | refine aR ?_ | refine aK ?_ | refine aB ?_ | refine aC rfl ?_ | refine bPt (by omega) ?_ | refine dI (by kernel_rfl) ?_); (try conv => whnf))
        exact ⟨i - 1, ⟨by omega, by omega⟩, by omega, canon_auto (by rw [show i - 1 + 1 = i by omega]; unfold lvLo lvHi; rw [s1, s2]; kernel_rfl)⟩
      · rw [if_neg k2] at s2
        repeat ((first | refine oP rfl ?_ | refine rP rfl (fun _ z => z) ?_ | (refine kO 1 rfl ?_; first | refine rAdd rfl rfl rfl (by omega) ?_ | refine rSub rfl rfl rfl (by omega) ?_ | refine rMul rfl rfl rfl (by omega) ?_ | refine rG (fun _ z => z) ?_) | (refine kO 3 rfl ?_; first | refine rLdr rfl rfl rfl rfl rfl ?_ | refine rLdb rfl rfl rfl rfl rfl rfl rfl ?_) | (refine kO 4 rfl ?_; refine rG (fun _ z => z) ?_) | (refine kO 5 rfl ?_; refine rIdx rfl rfl rfl rfl rfl rfl rfl (by omega) ?_) | refine oN ?_ | refine aS ?_ | refine aR ?_ | refine aK ?_ | refine aB ?_ | refine aC rfl ?_ | refine bPt (by omega) ?_ | refine bPf (by omega) ?_ | refine dI (by kernel_rfl) ?_); (try conv => whnf))
        exact ⟨i - 1, ⟨by omega, by omega⟩, by omega, canon_auto (by rw [show i - 1 + 1 = i by omega]; unfold lvLo lvHi; rw [s1, s2]; kernel_rfl)⟩
    · rw [if_neg k1] at s1
      by_cases k2 : 10 * (l.getD i.toNat 0 - e) ≥ t * y
      · rw [if_pos k2] at s2
        repeat ((first | refine oP rfl ?_ | refine rP rfl (fun _ z => z) ?_ | (refine kO 1 rfl ?_; first | refine rAdd rfl rfl rfl (by omega) ?_ | refine rSub rfl rfl rfl (by omega) ?_ | refine rMul rfl rfl rfl (by omega) ?_ | refine rG (fun _ z => z) ?_) | (refine kO 3 rfl ?_; first | refine rLdr rfl rfl rfl rfl rfl ?_ | refine rLdb rfl rfl rfl rfl rfl rfl rfl ?_) | (refine kO 4 rfl ?_; refine rG (fun _ z => z) ?_) | (refine kO 5 rfl ?_; refine rIdx rfl rfl rfl rfl rfl rfl rfl (by omega) ?_) | refine oN ?_ | refine aS ?_ | refine aR ?_ | refine aK ?_ | refine aB ?_ | refine aC rfl ?_ | refine bPt (by omega) ?_ | refine bPf (by omega) ?_ | refine dI (by kernel_rfl) ?_); (try conv => whnf))
        exact ⟨i - 1, ⟨by omega, by omega⟩, by omega, canon_auto (by rw [show i - 1 + 1 = i by omega]; unfold lvLo lvHi; rw [s1, s2]; kernel_rfl)⟩
      · rw [if_neg k2] at s2
        repeat ((first | refine oP rfl ?_ | refine rP rfl (fun _ z => z) ?_ | (refine kO 1 rfl ?_; first | refine rAdd rfl rfl rfl (by omega) ?_ | refine rSub rfl rfl rfl (by omega) ?_ | refine rMul rfl rfl rfl (by omega) ?_ | refine rG (fun _ z => z) ?_) | (refine kO 3 rfl ?_; first | refine rLdr rfl rfl rfl rfl rfl ?_ | refine rLdb rfl rfl rfl rfl rfl rfl rfl ?_) | (refine kO 5 rfl ?_; refine rIdx rfl rfl rfl rfl rfl rfl rfl (by omega) ?_) | refine oN ?_ | refine aS ?_ | refine aR ?_ | refine aK ?_ | refine aB ?_ | refine aC rfl ?_ | refine bPt (by omega) ?_ | refine bPf (by omega) ?_ | refine dI (by kernel_rfl) ?_); (try conv => whnf))
        exact ⟨i - 1, ⟨by omega, by omega⟩, by omega, canon_auto (by rw [show i - 1 + 1 = i by omega]; unfold lvLo lvHi; rw [s1, s2]; kernel_rfl)⟩
  · obtain rfl : i = -1 := by omega
    repeat ((first | refine oP rfl ?_ | refine rP rfl (fun _ z => z) ?_ | (refine kO 1 rfl ?_; refine rG (fun _ z => z) ?_) | (refine kO 3 rfl ?_; refine rG (fun _ z => z) ?_) | (refine kO 4 rfl ?_; refine rG (fun _ z => z) ?_) | refine oN ?_ | refine aS ?_ | refine aR ?_ | refine aX ?_ | refine aT ?_ | refine aC rfl ?_ | refine bF ?_); (try conv => whnf))
    (rfl)
theorem refHalf_sat (e : Int) (q : Sp) (ch : List Sp) (st : Int) (l : List Int) (a : Nat) (x y : Int) (he : 0 ≤ e ∧ e ≤ 1000) (hl : l.length ≤ 64) (h : AllIn l (-4096) 4096) (ha : a < l.length) : Sat cx.P cx.gl 96 [Ru e q ch, Rc st l, I (a : Nat), F2 x y] (.one (F2 (fF (hfLo e y) l (a + 1)) (fF (hfHi e x) l (a + 1)))) := by
  refine Sat_of_awp (fn := f96) cx_ok (by kernel_rfl) (by kernel_rfl) rfl (by kernel_rfl) (Nat.le_of_ble_eq_true rfl) ?_
  repeat ((first | refine oP rfl ?_ | refine rP rfl (fun _ z => z) ?_ | (refine kO 1 rfl ?_; refine rSub rfl rfl rfl (by omega) ?_) | (refine kO 3 rfl ?_; refine rLdb rfl rfl rfl rfl rfl rfl rfl ?_) | (refine kO 4 rfl ?_; refine rG (fun _ z => z) ?_) | (refine kO 6 rfl ?_; refine rLen rfl rfl rfl rfl rfl rfl ?_) | refine oN ?_ | refine aS ?_ | refine aR ?_ | refine aB ?_ | refine aL ?_); (try conv => whnf))
  refine loop_ind (ι := Int) (fun i => (a : Int) ≤ i ∧ i < l.length) (fun i => (i + 1).toNat) (fun i => ⟨[(2, vI (a : Nat)), (4, pP 0), (5, pP 1), (7, pP 2), (8, pP 3), (9, pP 4), (10, vI i)], [(0, bRu e q ch), (1, bRc st l), (2, bRg x y), (3, bRg 0 0), (4, bRg (fF (hfLo e y) l (i + 1).toNat) (fF (hfHi e x) l (i + 1).toNat))], 5⟩) ((l.length : Int) - 1) (canon_auto (by rw [show ((l.length : Int) - 1 + 1).toNat = l.length by omega, fF_end, fF_end]; kernel_rfl)) ⟨by omega, by omega⟩ ?_
  rintro i ⟨hi0, hi⟩
  by_cases hz : (a : Int) < i
  · have hlt : i.toNat < l.length := by omega
    have hb := getD_in h hlt
    have s1 := fF_step (p := hfLo e y) hlt
    have s2 := fF_step (p := hfHi e x) hlt
    rw [show i.toNat + 1 = (i + 1).toNat by omega, show ((i.toNat : Nat) : Int) = i by omega] at s1 s2
    unfold hfLo at s1
    unfold hfHi at s2
    simp only [decide_eq_true_eq] at s1 s2
    by_cases k1 : 2 * (l.getD i.toNat 0 - e) ≤ y
    · rw [if_pos k1] at s1
      by_cases k2 : 2 * (l.getD i.toNat 0 + e) ≤ x
      · rw [if_pos k2] at s2
        repeat ((first | refine oP rfl ?_ | refine rP rfl (fun _ z => z) ?_ | (refine kO 1 rfl ?_; first | refine rAdd rfl rfl rfl (by omega) ?_ | refine rSub rfl rfl rfl (by omega) ?_ | refine rMul rfl rfl rfl (by omega) ?_ | refine rG (fun _ z => z) ?_) | (refine kO 3 rfl ?_; first | refine rLdr rfl rfl rfl rfl rfl ?_ | refine rLdb rfl rfl rfl rfl rfl rfl rfl ?_) | (refine kO 4 rfl ?_; refine rG (fun _ z => z) ?_) | (refine kO 5 rfl ?_; refine rIdx rfl rfl rfl rfl rfl rfl rfl (by omega) ?_) | refine oN ?_ | refine aS ?_ | refine aR ?_ | refine aK ?_ | refine aB ?_ | refine aC rfl ?_ | refine bPt (by omega) ?_ | refine dI (by kernel_rfl) ?_); (try conv => whnf))
        exact ⟨i - 1, ⟨by omega, by omega⟩, by omega, canon_auto (by rw [show i - 1 + 1 = i by omega]; unfold hfLo hfHi; rw [s1, s2]; kernel_rfl)⟩
      · rw [if_neg k2] at s2
        repeat ((first | refine oP rfl ?_ | refine rP rfl (fun _ z => z) ?_ | (refine kO 1 rfl ?_; first | refine rAdd rfl rfl rfl (by omega) ?_ | refine rSub rfl rfl rfl (by omega) ?_ | refine rMul rfl rfl rfl (by omega) ?_ | refine rG (fun _ z => z) ?_) | (refine kO 3 rfl ?_; first | refine rLdr rfl rfl rfl rfl rfl ?_ | refine rLdb rfl rfl rfl rfl rfl rfl rfl ?_) | (refine kO 4 rfl ?_; refine rG (fun _ z => z) ?_) | (refine kO 5 rfl ?_; refine rIdx rfl rfl rfl rfl rfl rfl rfl (by omega) ?_) | refine oN ?_ | refine aS ?_ | refine aR ?_ | refine aK ?_ | refine aB ?_ | refine aC rfl ?_ | refine bPt (by omega) ?_ | refine bPf (by omega) ?_ | refine dI (by kernel_rfl) ?_); (try conv => whnf))
        exact ⟨i - 1, ⟨by omega, by omega⟩, by omega, canon_auto (by rw [show i - 1 + 1 = i by omega]; unfold hfLo hfHi; rw [s1, s2]; kernel_rfl)⟩
    · rw [if_neg k1] at s1
      by_cases k2 : 2 * (l.getD i.toNat 0 + e) ≤ x
      · rw [if_pos k2] at s2
        repeat ((first | refine oP rfl ?_ | refine rP rfl (fun _ z => z) ?_ | (refine kO 1 rfl ?_; first | refine rAdd rfl rfl rfl (by omega) ?_ | refine rSub rfl rfl rfl (by omega) ?_ | refine rMul rfl rfl rfl (by omega) ?_ | refine rG (fun _ z => z) ?_) | (refine kO 3 rfl ?_; first | refine rLdr rfl rfl rfl rfl rfl ?_ | refine rLdb rfl rfl rfl rfl rfl rfl rfl ?_) | (refine kO 4 rfl ?_; refine rG (fun _ z => z) ?_) | (refine kO 5 rfl ?_; refine rIdx rfl rfl rfl rfl rfl rfl rfl (by omega) ?_) | refine oN ?_ | refine aS ?_ | refine aR ?_ | refine aK ?_ | refine aB ?_ | refine aC rfl ?_ | refine bPt (by omega) ?_ | refine bPf (by omega) ?_ | refine dI (by kernel_rfl) ?_); (try conv => whnf))
        exact ⟨i - 1, ⟨by omega, by omega⟩, by omega, canon_auto (by rw [show i - 1 + 1 = i by omega]; unfold hfLo hfHi; rw [s1, s2]; kernel_rfl)⟩
      · rw [if_neg k2] at s2
        repeat ((first | refine oP rfl ?_ | refine rP rfl (fun _ z => z) ?_ | (refine kO 1 rfl ?_; first | refine rAdd rfl rfl rfl (by omega) ?_ | refine rSub rfl rfl rfl (by omega) ?_ | refine rMul rfl rfl rfl (by omega) ?_ | refine rG (fun _ z => z) ?_) | (refine kO 3 rfl ?_; first | refine rLdr rfl rfl rfl rfl rfl ?_ | refine rLdb rfl rfl rfl rfl rfl rfl rfl ?_) | (refine kO 5 rfl ?_; refine rIdx rfl rfl rfl rfl rfl rfl rfl (by omega) ?_) | refine oN ?_ | refine aS ?_ | refine aR ?_ | refine aK ?_ | refine aB ?_ | refine aC rfl ?_ | refine bPt (by omega) ?_ | refine bPf (by omega) ?_ | refine dI (by kernel_rfl) ?_); (try conv => whnf))
        exact ⟨i - 1, ⟨by omega, by omega⟩, by omega, canon_auto (by rw [show i - 1 + 1 = i by omega]; unfold hfLo hfHi; rw [s1, s2]; kernel_rfl)⟩
  · obtain rfl : i = (a : Int) := by omega
    repeat ((first | refine oP rfl ?_ | refine rP rfl (fun _ z => z) ?_ | (refine kO 1 rfl ?_; refine rG (fun _ z => z) ?_) | (refine kO 3 rfl ?_; refine rG (fun _ z => z) ?_) | (refine kO 4 rfl ?_; refine rG (fun _ z => z) ?_) | refine oN ?_ | refine aS ?_ | refine aR ?_ | refine aX ?_ | refine aT ?_ | refine aC rfl ?_ | refine bPf (by omega) ?_); (try conv => whnf))
    rw [show ((a : Int) + 1).toNat = a + 1 by omega]; (rfl)
end Go.Proofs.Tryd

namespace Go.Proofs.Tryd
open Go.Fw Go.IntWalk Go.Plain
set_option maxRecDepth 100000
set_option maxHeartbeats 8000000
abbrev bdQ (x : Qn) : Prop := (-5000 ≤ x.1 ∧ x.1 ≤ 5000) ∧ 1 ≤ x.2 ∧ x.2 ≤ 5000
abbrev bdS (s : Iv) : Prop := bdQ s.1 ∧ bdQ s.2
abbrev qv (x : Qn) : SV := (true, [J x.1, J x.2])
abbrev iv (s : Iv) : List SC := [J s.1.1, J s.1.2, J s.2.1, J s.2.2]
theorem bd_mid {x y : Qn} (hx : bdQ x) (hy : bdQ y) : mid (x.1 * y.2) := by
  have := mulS (x := x.1) (y := y.2) (A := 5000) (B := 5000) hx.1 (by omega) (by omega)
  omega
theorem bd_pos {x : Qn} (h : bdQ x) : posQ x := by have := h.2.1; show 0 < x.2; omega
theorem bdS_pos {s : Iv} (h : bdS s) : posS s := ⟨bd_pos h.1, bd_pos h.2⟩
theorem qless_sat {x y : Qn} (hx : bdQ x) (hy : bdQ y) : Sat cx.P cx.gl 114 [qv x, qv y] (.one (Bo (decide (ltQ x y)))) := wLess_sat x.1 x.2 y.1 y.2 (bd_mid hx hy) (bd_mid hy hx)
theorem smaller_sat {x y : Qn} (hx : bdQ x) (hy : bdQ y) : Sat cx.P cx.gl 142 [qv x, qv y] (.one (qv (mnQ x y))) := by
  have g := qless_sat hy hx
  unfold mnQ
  by_cases h : ltQ y x
  · rw [decide_eq_true h] at g
    rw [if_pos h]
    refine Sat_of_awp (fn := f142) cx_ok (by kernel_rfl) (by kernel_rfl) rfl (by kernel_rfl) (Nat.le_of_ble_eq_true rfl) ?_
    repeat ((first | refine oP rfl ?_ | refine rP rfl (fun _ z => z) ?_ | (refine kO 3 rfl ?_; refine rG (fun _ z => z) ?_) | (refine kO 4 rfl ?_; refine rG (fun _ z => z) ?_) | (refine kO 7 rfl ?_; refine rG (fun _ z => ⟨_, g, z⟩) ?_) | refine oN ?_ | refine aS ?_ | refine aR ?_ | refine aT ?_ | refine aC rfl ?_ | refine bT ?_); (try conv => whnf))
    (rfl)
  · rw [decide_eq_false h] at g
    rw [if_neg h]
    refine Sat_of_awp (fn := f142) cx_ok (by kernel_rfl) (by kernel_rfl) rfl (by kernel_rfl) (Nat.le_of_ble_eq_true rfl) ?_
    repeat ((first | refine oP rfl ?_ | refine rP rfl (fun _ z => z) ?_ | (refine kO 3 rfl ?_; refine rG (fun _ z => z) ?_) | (refine kO 4 rfl ?_; refine rG (fun _ z => z) ?_) | (refine kO 7 rfl ?_; refine rG (fun _ z => ⟨_, g, z⟩) ?_) | refine oN ?_ | refine aS ?_ | refine aR ?_ | refine aK ?_ | refine aT ?_ | refine aC rfl ?_ | refine bF ?_); (try conv => whnf))
    (rfl)
theorem greater_sat {x y : Qn} (hx : bdQ x) (hy : bdQ y) : Sat cx.P cx.gl 141 [qv x, qv y] (.one (qv (mxQ x y))) := by
  have g := qless_sat hx hy
  unfold mxQ
  by_cases h : ltQ x y
  · rw [decide_eq_true h] at g
    rw [if_pos h]
    refine Sat_of_awp (fn := f141) cx_ok (by kernel_rfl) (by kernel_rfl) rfl (by kernel_rfl) (Nat.le_of_ble_eq_true rfl) ?_
    repeat ((first | refine oP rfl ?_ | refine rP rfl (fun _ z => z) ?_ | (refine kO 3 rfl ?_; refine rG (fun _ z => z) ?_) | (refine kO 4 rfl ?_; refine rG (fun _ z => z) ?_) | (refine kO 7 rfl ?_; refine rG (fun _ z => ⟨_, g, z⟩) ?_) | refine oN ?_ | refine aS ?_ | refine aR ?_ | refine aT ?_ | refine aC rfl ?_ | refine bT ?_); (try conv => whnf))
    (rfl)
  · rw [decide_eq_false h] at g
    rw [if_neg h]
    refine Sat_of_awp (fn := f141) cx_ok (by kernel_rfl) (by kernel_rfl) rfl (by kernel_rfl) (Nat.le_of_ble_eq_true rfl) ?_
    repeat ((first | refine oP rfl ?_ | refine rP rfl (fun _ z => z) ?_ | (refine kO 3 rfl ?_; refine rG (fun _ z => z) ?_) | (refine kO 4 rfl ?_; refine rG (fun _ z => z) ?_) | (refine kO 7 rfl ?_; refine rG (fun _ z => ⟨_, g, z⟩) ?_) | refine oN ?_ | refine aS ?_ | refine aR ?_ | refine aK ?_ | refine aT ?_ | refine aC rfl ?_ | refine bF ?_); (try conv => whnf))
    (rfl)
theorem isEmpty_sat {s : Iv} (h : bdS s) : Sat cx.P cx.gl 101 [(true, iv s)] (.one (Bo (decide (empS s)))) := by
  have g := qless_sat h.2 h.1
  refine Sat_of_awp (fn := f101) cx_ok (by kernel_rfl) (by kernel_rfl) rfl (by kernel_rfl) (Nat.le_of_ble_eq_true rfl) ?_
  repeat ((first | refine oP rfl ?_ | refine rP rfl (fun _ z => z) ?_ | (refine kO 3 rfl ?_; refine rG (fun _ z => z) ?_) | (refine kO 7 rfl ?_; refine rG (fun _ z => ⟨_, g, z⟩) ?_) | refine oN ?_ | refine aS ?_ | refine aR ?_ | refine aT ?_); (try conv => whnf))
  (rfl)
theorem mx_bd {x y : Qn} (hx : bdQ x) (hy : bdQ y) : bdQ (mxQ x y) := by unfold mxQ; split <;> assumption
theorem mn_bd {x y : Qn} (hx : bdQ x) (hy : bdQ y) : bdQ (mnQ x y) := by unfold mnQ; split <;> assumption
theorem low_bdQ {n d : Int} (hn : -5000 ≤ n ∧ n ≤ 5000) (hd : 1 ≤ d ∧ d ≤ 5000) : bdQ (lowQ n d) := by
  have h1 := low_abs n d
  have h2 := den_le (n := n) (d := d) (by omega)
  have h3 := lowDen_pos (n := n) (d := d) (by omega)
  show (-5000 ≤ lowNum n d ∧ lowNum n d ≤ 5000) ∧ 1 ≤ lowDen n d ∧ lowDen n d ≤ 5000
  omega
abbrev b5 (n : Int) : Prop := -5000 ≤ n ∧ n ≤ 5000
theorem am_bd {s : Iv} {n m : Int} (h : bdS s) (hn : b5 n) (hm : b5 m) : bdS (amS s n m) := by
  unfold amS
  split
  · exact ⟨h.1, mn_bd h.2 (low_bdQ hm (by omega))⟩
  · split
    · exact ⟨mx_bd h.1 (low_bdQ (by omega) (by omega)), h.2⟩
    · split
      · unfold nevS; exact ⟨⟨by decide, by decide⟩, by decide, by decide⟩
      · exact h
theorem and_bd {s o : Iv} (h : bdS s) (k : bdS o) : bdS (andS s o) := ⟨mx_bd h.1 k.1, mn_bd h.2 k.2⟩
theorem and_sat {s o : Iv} (h : bdS s) (k : bdS o) : Sat cx.P cx.gl 132 [(true, iv s), (true, iv o)] (.one (true, iv (andS s o))) := by
  have g1 := greater_sat h.1 k.1
  have g2 := smaller_sat h.2 k.2
  refine Sat_of_awp (fn := f132) cx_ok (by kernel_rfl) (by kernel_rfl) rfl (by kernel_rfl) (Nat.le_of_ble_eq_true rfl) ?_
  repeat ((first | refine oP rfl ?_ | refine rP rfl (fun _ z => z) ?_ | (refine kO 3 rfl ?_; refine rG (fun _ z => z) ?_) | (refine kO 4 rfl ?_; refine rG (fun _ z => z) ?_) | (refine kO 7 rfl ?_; first | refine rG (fun _ z => ⟨_, g1, z⟩) ?_ | refine rG (fun _ z => ⟨_, g2, z⟩) ?_) | refine oN ?_ | refine aS ?_ | refine aR ?_ | refine aT ?_ | refine dI (by kernel_rfl) ?_); (try conv => whnf))
  (rfl)
theorem qlow_sat {n d : Int} (hn : b5 n) (hd : 1 ≤ d ∧ d ≤ 5000) : Sat cx.P cx.gl 106 [I n, I d] (.one (qv (lowQ n d))) := wLowest_sat n d ⟨by omega, by omega⟩ (by omega)
theorem atMost_sat {s : Iv} {n m : Int} (h : bdS s) (hn : b5 n) (hm : b5 m) : Sat cx.P cx.gl 143 [(true, iv s), I n, I m] (.one (true, iv (amS s n m))) := by
  unfold amS
  by_cases h1 : n > 0
  · rw [if_pos h1]
    have g1 := qlow_sat (n := m) (d := n) hm (by omega)
    have g2 := smaller_sat h.2 (low_bdQ (n := m) (d := n) hm (by omega))
    refine Sat_of_awp (fn := f143) cx_ok (by kernel_rfl) (by kernel_rfl) rfl (by kernel_rfl) (Nat.le_of_ble_eq_true rfl) ?_
    repeat ((first | refine oP rfl ?_ | refine rP rfl (fun _ z => z) ?_ | (refine kO 1 rfl ?_; refine rG (fun _ z => z) ?_) | (refine kO 3 rfl ?_; refine rG (fun _ z => z) ?_) | (refine kO 4 rfl ?_; refine rG (fun _ z => z) ?_) | (refine kO 7 rfl ?_; first | refine rG (fun _ z => ⟨_, g1, z⟩) ?_ | refine rG (fun _ z => ⟨_, g2, z⟩) ?_) | refine oN ?_ | refine aS ?_ | refine aR ?_ | refine aB ?_ | refine aT ?_ | refine aC rfl ?_ | refine bPt (by omega) ?_ | refine dI (by kernel_rfl) ?_); (try conv => whnf))
    (rfl)
  · rw [if_neg h1]
    by_cases h2 : n < 0
    · rw [if_pos h2]
      have g1 := qlow_sat (n := -m) (d := -n) (by omega) (by omega)
      have g2 := greater_sat h.1 (low_bdQ (n := -m) (d := -n) (by omega) (by omega))
      refine Sat_of_awp (fn := f143) cx_ok (by kernel_rfl) (by kernel_rfl) rfl (by kernel_rfl) (Nat.le_of_ble_eq_true rfl) ?_
      repeat ((first | refine oP rfl ?_ | refine rP rfl (fun _ z => z) ?_ | (refine kO 1 rfl ?_; refine rG (fun _ z => z) ?_) | (refine kO 2 rfl ?_; refine rNeg rfl rfl (by omega) ?_) | (refine kO 3 rfl ?_; refine rG (fun _ z => z) ?_) | (refine kO 4 rfl ?_; refine rG (fun _ z => z) ?_) | (refine kO 7 rfl ?_; first | refine rG (fun _ z => ⟨_, g1, z⟩) ?_ | refine rG (fun _ z => ⟨_, g2, z⟩) ?_) | refine oN ?_ | refine aS ?_ | refine aR ?_ | refine aB ?_ | refine aT ?_ | refine aC rfl ?_ | refine bPt (by omega) ?_ | refine bPf (by omega) ?_ | refine dI (by kernel_rfl) ?_); (try conv => whnf))
      (rfl)
    · rw [if_neg h2]
      by_cases h3 : m < 0
      · rw [if_pos h3]
        refine Sat_of_awp (fn := f143) cx_ok (by kernel_rfl) (by kernel_rfl) rfl (by kernel_rfl) (Nat.le_of_ble_eq_true rfl) ?_
        repeat ((first | refine oP rfl ?_ | refine rP rfl (fun _ z => z) ?_ | (refine kO 1 rfl ?_; refine rG (fun _ z => z) ?_) | (refine kO 3 rfl ?_; refine rG (fun _ z => z) ?_) | (refine kO 4 rfl ?_; refine rG (fun _ z => z) ?_) | refine oN ?_ | refine aS ?_ | refine aR ?_ | refine aB ?_ | refine aT ?_ | refine aC rfl ?_ | refine bPt (by omega) ?_ | refine bPf (by omega) ?_); (try conv => whnf))
        (rfl)
      · rw [if_neg h3]
        refine Sat_of_awp (fn := f143) cx_ok (by kernel_rfl) (by kernel_rfl) rfl (by kernel_rfl) (Nat.le_of_ble_eq_true rfl) ?_
        repeat ((first | refine oP rfl ?_ | refine rP rfl (fun _ z => z) ?_ | (refine kO 1 rfl ?_; refine rG (fun _ z => z) ?_) | (refine kO 3 rfl ?_; refine rG (fun _ z => z) ?_) | (refine kO 4 rfl ?_; refine rG (fun _ z => z) ?_) | refine oN ?_ | refine aS ?_ | refine aR ?_ | refine aK ?_ | refine aB ?_ | refine aT ?_ | refine aC rfl ?_ | refine bPf (by omega) ?_); (try conv => whnf))
        (rfl)
/-- Two records with factors and an error. -/
abbrev Pr (F : Iv) (e : Int) (a b : List Int) : SV := (true, [J F.1.1, J F.1.2, J F.2.1, J F.2.2, J e, .ints a, .ints b])
abbrev smpl (l : List Int) : Prop := AllIn l (-4096) 4096
theorem at_bd {F : Iv} {e x y : Int} (h : bdS F) (he : 0 ≤ e ∧ e ≤ 100) (hx : -4096 ≤ x ∧ x ≤ 4096) (hy : -4096 ≤ y ∧ y ≤ 4096) : bdS (atS F e x y) := am_bd (am_bd h (by omega) (by omega)) (by omega) (by omega)
theorem at_sat {F : Iv} {e : Int} {a b : List Int} {i : Int} (h : bdS F) (he : 0 ≤ e ∧ e ≤ 100) (hl : a.length = b.length) (ha : smpl a) (hb : smpl b) (hi : 0 ≤ i ∧ i < a.length) : Sat cx.P cx.gl 133 [Pr F e a b, I i] (.one (true, iv (atS F e (a.getD i.toNat 0) (b.getD i.toNat 0)))) := by
  have hx := getD_in ha (show i.toNat < a.length by omega)
  have hy := getD_in hb (show i.toNat < b.length by omega)
  have g1 := atMost_sat (n := a.getD i.toNat 0 - e) (m := b.getD i.toNat 0 + e) h (by omega) (by omega)
  have g2 := atMost_sat (n := -a.getD i.toNat 0 - e) (m := e - b.getD i.toNat 0) (am_bd (n := a.getD i.toNat 0 - e) (m := b.getD i.toNat 0 + e) h (by omega) (by omega)) (by omega) (by omega)
  unfold atS
  refine Sat_of_awp (fn := f133) cx_ok (by kernel_rfl) (by kernel_rfl) rfl (by kernel_rfl) (Nat.le_of_ble_eq_true rfl) ?_
  repeat ((first | refine oP rfl ?_ | refine rP rfl (fun _ z => z) ?_ | (refine kO 1 rfl ?_; first | refine rAdd rfl rfl rfl (by omega) ?_ | refine rSub rfl rfl rfl (by omega) ?_) | (refine kO 2 rfl ?_; refine rNeg rfl rfl (by omega) ?_) | (refine kO 3 rfl ?_; first | refine rLdr rfl rfl rfl rfl rfl ?_ | refine rLdb rfl rfl rfl rfl rfl rfl rfl ?_ | refine rG (fun _ z => z) ?_) | (refine kO 4 rfl ?_; refine rG (fun _ z => z) ?_) | (refine kO 5 rfl ?_; refine rIdx rfl rfl rfl rfl rfl rfl rfl (by omega) ?_) | (refine kO 7 rfl ?_; first | refine rG (fun _ z => ⟨_, g1, z⟩) ?_ | refine rG (fun _ z => ⟨_, g2, z⟩) ?_) | refine oN ?_ | refine aS ?_ | refine aR ?_ | refine aT ?_ | refine dI (by kernel_rfl) ?_); (try conv => whnf))
  (rfl)
def PI (a b ix : List Int) : List (Int × Int) := ix.map fun w => (a.getD w.toNat 0, b.getD w.toNat 0)
def rng (n : Nat) : List Int := (List.range n).map fun (i : Nat) => (i : Int)
theorem rng_succ (n : Nat) : rng (n + 1) = rng n ++ [(n : Int)] := by simp [rng, List.range_succ]
theorem rng_len (n : Nat) : (rng n).length = n := by simp [rng]
theorem allS_snoc (F : Iv) (e : Int) (p : Int × Int) : ∀ (l : List (Int × Int)) (s : Iv), allS F e (l ++ [p]) s = andS (allS F e l s) (atS F e p.1 p.2)
  | [], _ => rfl
  | _ :: l, _ => allS_snoc F e p l _
theorem PI_snoc (a b ix : List Int) (w : Int) : PI a b (ix ++ [w]) = PI a b ix ++ [(a.getD w.toNat 0, b.getD w.toNat 0)] := by simp [PI]
theorem take_snoc {l : List Int} {i : Nat} (h : i < l.length) : l.take (i + 1) = l.take i ++ [l.getD i 0] := by
  rw [List.take_succ_eq_append_getElem h]; simp [List.getD_eq_getElem?_getD, h]
theorem allS_bd {F : Iv} {e : Int} (h : bdS F) (he : 0 ≤ e ∧ e ≤ 100) : ∀ (l : List (Int × Int)) (s : Iv), bdS s → (∀ p ∈ l, (-4096 ≤ p.1 ∧ p.1 ≤ 4096) ∧ -4096 ≤ p.2 ∧ p.2 ≤ 4096) → bdS (allS F e l s)
  | [], _, hs, _ => hs
  | p :: l, _, hs, hp => allS_bd h he l _ (and_bd hs (at_bd h he (hp p (List.mem_cons_self ..)).1 (hp p (List.mem_cons_self ..)).2)) fun p hp' => hp p (List.mem_cons_of_mem _ hp')
theorem PI_mem {a b ix : List Int} (ha : smpl a) (hb : smpl b) (hl : a.length = b.length) (hi : ∀ w ∈ ix, 0 ≤ w ∧ w < a.length) : ∀ p ∈ PI a b ix, (-4096 ≤ p.1 ∧ p.1 ≤ 4096) ∧ -4096 ≤ p.2 ∧ p.2 ≤ 4096 := by
  intro p hp
  obtain ⟨w, hw, rfl⟩ := List.mem_map.1 hp
  have := hi w hw
  exact ⟨getD_in ha (by omega), getD_in hb (by omega)⟩
theorem rng_in (n : Nat) : ∀ w ∈ rng n, 0 ≤ w ∧ w < n := by
  intro w hw
  obtain ⟨i, hi, rfl⟩ := List.mem_map.1 hw
  have := List.mem_range.1 hi
  omega
theorem all_sat {F : Iv} {e : Int} {a b : List Int} (h : bdS F) (he : 0 ≤ e ∧ e ≤ 100) (hl : a.length = b.length) (hn : a.length ≤ 64) (ha : smpl a) (hb : smpl b) : Sat cx.P cx.gl 100 [Pr F e a b] (.one (true, iv (allS F e (PI a b (rng a.length)) F))) := by
  refine Sat_of_awp (fn := f100) cx_ok (by kernel_rfl) (by kernel_rfl) rfl (by kernel_rfl) (Nat.le_of_ble_eq_true rfl) ?_
  repeat ((first | refine oP rfl ?_ | refine rP rfl (fun _ z => z) ?_ | (refine kO 3 rfl ?_; first | refine rLdb rfl rfl rfl rfl rfl rfl rfl ?_ | refine rG (fun _ z => z) ?_) | (refine kO 4 rfl ?_; refine rG (fun _ z => z) ?_) | (refine kO 6 rfl ?_; refine rLen rfl rfl rfl rfl rfl rfl ?_) | refine oN ?_ | refine aS ?_ | refine aR ?_ | refine aB ?_ | refine aL ?_); (try conv => whnf))
  refine loop_ind (ι := Nat) (fun i => i ≤ a.length) (fun i => a.length - i) (fun i => ⟨[(1, pP 0), (2, pP 1), (3, pP 2), (9, vI a.length), (10, vI i)], [(0, some (.box 155 [.st (J F.1.1), .st (J F.1.2), .st (J F.2.1), .st (J F.2.2), .st (J e), .st (.ints a), .st (.ints b)])), (1, some (.box 153 [.st (J 0), .st (J 0), .st (J 0), .st (J 0)])),
    (2, some (.box 153 ((iv (allS F e (PI a b (rng i)) F)).map .st)))], 3⟩) 0 (canon_auto (by kernel_rfl)) (Nat.zero_le _) ?_
  intro i hi
  have hB := allS_bd h he (PI a b (rng i)) F h (PI_mem ha hb hl (fun w hw => by have := rng_in i w hw; omega))
  by_cases hlt : i < a.length
  · have g1 := at_sat (i := (i : Int)) h he hl ha hb (by omega)
    have g2 := and_sat hB (at_bd h he (getD_in ha (show (i : Int).toNat < a.length by omega)) (getD_in hb (show (i : Int).toNat < b.length by omega)))
    have e1 : allS F e (PI a b (rng (i + 1))) F = andS (allS F e (PI a b (rng i)) F) (atS F e (a.getD (i : Int).toNat 0) (b.getD (i : Int).toNat 0)) := by
      rw [rng_succ, PI_snoc, allS_snoc]
    generalize allS F e (PI a b (rng i)) F = S at *
    repeat ((first | refine oP rfl ?_ | refine rP rfl (fun _ z => z) ?_ | (refine kO 1 rfl ?_; first | refine rAdd rfl rfl rfl (by omega) ?_ | refine rG (fun _ z => z) ?_) | (refine kO 3 rfl ?_; refine rG (fun _ z => z) ?_) | (refine kO 4 rfl ?_; refine rG (fun _ z => z) ?_) | (refine kO 7 rfl ?_; first | refine rG (fun _ z => ⟨_, g1, z⟩) ?_ | refine rG (fun _ z => ⟨_, g2, z⟩) ?_) | refine oN ?_ | refine aS ?_ | refine aR ?_ | refine aK ?_ | refine aB ?_ | refine aC rfl ?_ | refine bPt (by omega) ?_ | refine dI (by kernel_rfl) ?_); (try conv => whnf))
    exact ⟨i + 1, hlt, by omega, canon_auto (by rw [e1]; kernel_rfl)⟩
  · obtain rfl : i = a.length := by omega
    repeat ((first | refine oP rfl ?_ | (refine kO 1 rfl ?_; refine rG (fun _ z => z) ?_) | (refine kO 3 rfl ?_; refine rG (fun _ z => z) ?_) | (refine kO 4 rfl ?_; refine rG (fun _ z => z) ?_) | refine oN ?_ | refine aS ?_ | refine aR ?_ | refine aX ?_ | refine aT ?_ | refine aC rfl ?_ | refine bPf (by omega) ?_); (try conv => whnf))
    (rfl)
theorem by_sat {F : Iv} {e : Int} {a b ix : List Int} (h : bdS F) (he : 0 ≤ e ∧ e ≤ 100) (hl : a.length = b.length) (hx : ix.length ≤ 70) (ha : smpl a) (hb : smpl b) (hi : ∀ w ∈ ix, 0 ≤ w ∧ w < a.length) : Sat cx.P cx.gl 109 [Pr F e a b, L ix] (.one (true, iv (allS F e (PI a b ix) F))) := by
  refine Sat_of_awp (fn := f109) cx_ok (by kernel_rfl) (by kernel_rfl) rfl (by kernel_rfl) (Nat.le_of_ble_eq_true rfl) ?_
  repeat ((first | refine oP rfl ?_ | refine rP rfl (fun _ z => z) ?_ | (refine kO 3 rfl ?_; refine rG (fun _ z => z) ?_) | (refine kO 4 rfl ?_; refine rG (fun _ z => z) ?_) | (refine kO 6 rfl ?_; refine rLen rfl rfl rfl rfl rfl rfl ?_) | refine oN ?_ | refine aS ?_ | refine aR ?_ | refine aB ?_ | refine aL ?_); (try conv => whnf))
  refine loop_ind (ι := Nat) (fun i => i ≤ ix.length) (fun i => ix.length - i) (fun i => ⟨[(2, pP 0), (4, pP 1), (5, pP 2), (10, vL ix), (11, vI ix.length), (12, vI i)], [(0, some (.box 155 [.st (J F.1.1), .st (J F.1.2), .st (J F.2.1), .st (J F.2.2), .st (J e), .st (.ints a), .st (.ints b)])), (1, some (.box 153 [.st (J 0), .st (J 0), .st (J 0), .st (J 0)])),
    (2, some (.box 153 ((iv (allS F e (PI a b (ix.take i)) F)).map .st)))], 3⟩) 0 (canon_auto (by kernel_rfl)) (Nat.zero_le _) ?_
  intro i hi'
  have hB := allS_bd h he (PI a b (ix.take i)) F h (PI_mem ha hb hl (fun w hw => hi w (List.mem_of_mem_take hw)))
  by_cases hlt : i < ix.length
  · have hw := hi _ (getD_mem (d := 0) hlt)
    have g1 := at_sat (i := ix.getD i 0) h he hl ha hb hw
    have g2 := and_sat hB (at_bd h he (getD_in ha (show (ix.getD i 0).toNat < a.length by omega)) (getD_in hb (show (ix.getD i 0).toNat < b.length by omega)))
    have e1 : allS F e (PI a b (ix.take (i + 1))) F = andS (allS F e (PI a b (ix.take i)) F) (atS F e (a.getD (ix.getD i 0).toNat 0) (b.getD (ix.getD i 0).toNat 0)) := by
      rw [take_snoc hlt, PI_snoc, allS_snoc]
    generalize allS F e (PI a b (ix.take i)) F = S at *
    repeat ((first | refine oP rfl ?_ | refine rP rfl (fun _ z => z) ?_ | (refine kO 1 rfl ?_; first | refine rAdd rfl rfl rfl (by omega) ?_ | refine rG (fun _ z => z) ?_) | (refine kO 3 rfl ?_; first | refine rLdr rfl rfl rfl rfl rfl ?_ | refine rG (fun _ z => z) ?_) | (refine kO 4 rfl ?_; refine rG (fun _ z => z) ?_) | (refine kO 5 rfl ?_; refine rIdN rfl rfl rfl rfl rfl rfl rfl (by omega) ?_) | (refine kO 7 rfl ?_; first | refine rG (fun _ z => ⟨_, g1, z⟩) ?_ | refine rG (fun _ z => ⟨_, g2, z⟩) ?_) | refine oN ?_ | refine aS ?_ | refine aR ?_ | refine aK ?_ | refine aB ?_ | refine aC rfl ?_ | refine bPt (by omega) ?_ | refine dI (by kernel_rfl) ?_); (try conv => whnf))
    exact ⟨i + 1, hlt, by omega, canon_auto (by rw [e1]; kernel_rfl)⟩
  · obtain rfl : i = ix.length := by omega
    repeat ((first | refine oP rfl ?_ | (refine kO 1 rfl ?_; refine rG (fun _ z => z) ?_) | (refine kO 3 rfl ?_; refine rG (fun _ z => z) ?_) | (refine kO 4 rfl ?_; refine rG (fun _ z => z) ?_) | refine oN ?_ | refine aS ?_ | refine aR ?_ | refine aX ?_ | refine aT ?_ | refine aC rfl ?_ | refine bPf (by omega) ?_); (try conv => whnf))
    rw [List.take_length]; (rfl)
end Go.Proofs.Tryd

namespace Go.Proofs.Tryd
open Go.Fw Go.IntWalk Go.Plain
set_option maxRecDepth 100000
set_option maxHeartbeats 8000000
/-- The factors of rules. -/
abbrev sF (q : Sp) : Iv := ((q.1, q.2.1), (q.2.2.1, q.2.2.2))
theorem sF_bd {q : Sp} (h : facErr q = 0) : bdS (sF q) := by
  obtain ⟨⟨h1, h2, h3, h4⟩, _⟩ := facErr_zero h
  exact ⟨⟨⟨show -5000 ≤ q.1 by omega, show q.1 ≤ 5000 by omega⟩, show 1 ≤ q.2.1 by omega, show q.2.1 ≤ 5000 by omega⟩, ⟨show -5000 ≤ q.2.2.1 by omega, show q.2.2.1 ≤ 5000 by omega⟩, show 1 ≤ q.2.2.2 by omega, show q.2.2.2 ≤ 5000 by omega⟩
theorem sF_ne {q : Sp} (h : facErr q = 0) : ¬ empS (sF q) := (facErr_zero h).2.2.2
def pairErr (e : Int) (q : Sp) (ch : List Sp) (sa : Int) (la : List Int) (sb : Int) (lb : List Int) : Int := if rulesErr e q ch ≠ 0 then rulesErr e q ch else if recErr sa la ≠ 0 then recErr sa la else if recErr sb lb ≠ 0 then recErr sb lb else if sa = sb ∧ (la.length : Int) = lb.length then 0 else 10
theorem pairErr_zero {e : Int} {q : Sp} {ch : List Sp} {sa : Int} {la : List Int} {sb : Int} {lb : List Int} (h : pairErr e q ch sa la sb lb = 0) : rulesErr e q ch = 0 ∧ recErr sa la = 0 ∧ recErr sb lb = 0 ∧ sa = sb ∧ la.length = lb.length := by
  unfold pairErr at h
  repeat' split at h
  all_goals omega
/-- All facts of a valid pair. -/
theorem pair_facts {e : Int} {q : Sp} {ch : List Sp} {sa : Int} {la : List Int} {sb : Int} {lb : List Int} (h : pairErr e q ch sa la sb lb = 0) : (0 ≤ e ∧ e ≤ 100) ∧ bdS (sF q) ∧ ¬ empS (sF q) ∧ (3 ≤ la.length ∧ la.length ≤ 64) ∧ la.length = lb.length ∧ smpl la ∧ smpl lb := by
  obtain ⟨h1, h2, h3, _, h5⟩ := pairErr_zero h
  obtain ⟨g1, g2, _⟩ := rulesErr_zero h1
  obtain ⟨_, k1, k2, k3⟩ := recErr_zero h2
  obtain ⟨_, _, _, m3⟩ := recErr_zero h3
  exact ⟨g1, sF_bd g2, sF_ne g2, ⟨k1, k2⟩, h5, k3, m3⟩
/-- The factors that all samples permit. -/
def SS (e : Int) (q : Sp) (la lb : List Int) : Iv := allS (sF q) e (PI la lb (rng la.length)) (sF q)
theorem SS_bd {e : Int} {q : Sp} {la lb : List Int} (h : bdS (sF q)) (he : 0 ≤ e ∧ e ≤ 100) (hl : la.length = lb.length) (ha : smpl la) (hb : smpl lb) : bdS (SS e q la lb) :=
  allS_bd h he _ _ h (PI_mem ha hb hl (fun w hw => by have := rng_in _ w hw; omega))
theorem openPair_sat (e : Int) (q : Sp) (ch : List Sp) (sa : Int) (la : List Int) (sb : Int) (lb : List Int) (hq : SpI q) (hch : ∀ s ∈ ch, SpI s) (hc : ch.length ≤ 4294967296) (hla : la.length ≤ maxLen) (hlb : lb.length ≤ maxLen) :
    Sat cx.P cx.gl 99 [Ru e q ch, Rc sa la, Rc sb lb] (.tup [Pr (sF q) e la lb, I (pairErr e q ch sa la sb lb)]) := by
  have s1 := checkRules_sat e q ch hq hch hc
  have s2 := checkRecord_sat sa la hla
  have s3 := checkRecord_sat sb lb hlb
  have f := fs4 (rulesErr e q ch) (recErr sa la) (recErr sb lb) (if sa = sb ∧ (la.length : Int) = lb.length then 0 else 10)
  have f' : fs [rulesErr e q ch, recErr sa la, recErr sb lb, if sa = sb ∧ (la.length : Int) = lb.length then 0 else 10] = pairErr e q ch sa la sb lb := by
    rw [f]; unfold pairErr; (repeat' split) <;> omega
  rw [← f']
  clear f f'
  by_cases h1 : sa = sb
  · by_cases h2 : (la.length : Int) = lb.length
    · rw [if_pos ⟨h1, h2⟩]
      refine Sat_of_awp (fn := f99) cx_ok (by kernel_rfl) (by kernel_rfl) rfl (by kernel_rfl) (Nat.le_of_ble_eq_true rfl) ?_
      repeat ((first | refine oP rfl ?_ | refine rP rfl (fun _ z => z) ?_ | (refine kO 1 rfl ?_; refine rG (fun _ z => z) ?_) | (refine kO 3 rfl ?_; first | refine rLdb rfl rfl rfl rfl rfl rfl rfl ?_ | refine rG (fun _ z => z) ?_) | (refine kO 4 rfl ?_; refine rG (fun _ z => z) ?_) | (refine kO 7 rfl ?_; first | refine rG (fun _ z => ⟨_, s1, z⟩) ?_ | refine rG (fun _ z => ⟨_, s2, z⟩) ?_ | refine rG (fun _ z => ⟨_, s3, z⟩) ?_ | refine rG (fun _ z => ⟨_, wUnless_yes (show _ by simp [h2]) _, z⟩) ?_ | refine rG (fun _ z => ⟨_, wFirst_fs _ (Nat.le_of_ble_eq_true rfl), z⟩) ?_) | (refine kO 6 rfl ?_; refine rLen rfl rfl rfl rfl rfl rfl ?_) | refine oN ?_ | refine aS ?_ | refine aR ?_ | refine aT ?_ | refine oY rfl rfl rfl ?_ | refine oIt rfl rfl rfl (by omega) ?_ | refine dI (by kernel_rfl) ?_); (try conv => whnf))
      (rfl)
    · rw [if_neg (fun h => h2 h.2)]
      refine Sat_of_awp (fn := f99) cx_ok (by kernel_rfl) (by kernel_rfl) rfl (by kernel_rfl) (Nat.le_of_ble_eq_true rfl) ?_
      repeat ((first | refine oP rfl ?_ | refine rP rfl (fun _ z => z) ?_ | (refine kO 1 rfl ?_; refine rG (fun _ z => z) ?_) | (refine kO 3 rfl ?_; first | refine rLdb rfl rfl rfl rfl rfl rfl rfl ?_ | refine rG (fun _ z => z) ?_) | (refine kO 4 rfl ?_; refine rG (fun _ z => z) ?_) | (refine kO 7 rfl ?_; first | refine rG (fun _ z => ⟨_, s1, z⟩) ?_ | refine rG (fun _ z => ⟨_, s2, z⟩) ?_ | refine rG (fun _ z => ⟨_, s3, z⟩) ?_ | refine rG (fun _ z => ⟨_, wUnless_no (show ¬ _ by simp [h2]) _, z⟩) ?_ | refine rG (fun _ z => ⟨_, wFirst_fs _ (Nat.le_of_ble_eq_true rfl), z⟩) ?_) | (refine kO 6 rfl ?_; refine rLen rfl rfl rfl rfl rfl rfl ?_) | refine oN ?_ | refine aS ?_ | refine aR ?_ | refine aT ?_ | refine oY rfl rfl rfl ?_ | refine oIt rfl rfl rfl (by omega) ?_ | refine dI (by kernel_rfl) ?_); (try conv => whnf))
      (rfl)
  · rw [if_neg (fun h => h1 h.1)]
    refine Sat_of_awp (fn := f99) cx_ok (by kernel_rfl) (by kernel_rfl) rfl (by kernel_rfl) (Nat.le_of_ble_eq_true rfl) ?_
    repeat ((first | refine oP rfl ?_ | refine rP rfl (fun _ z => z) ?_ | (refine kO 1 rfl ?_; refine rG (fun _ z => z) ?_) | (refine kO 3 rfl ?_; first | refine rLdb rfl rfl rfl rfl rfl rfl rfl ?_ | refine rG (fun _ z => z) ?_) | (refine kO 4 rfl ?_; refine rG (fun _ z => z) ?_) | (refine kO 7 rfl ?_; first | refine rG (fun _ z => ⟨_, s1, z⟩) ?_ | refine rG (fun _ z => ⟨_, s2, z⟩) ?_ | refine rG (fun _ z => ⟨_, s3, z⟩) ?_ | refine rG (fun _ z => ⟨_, wUnless_no (show ¬ _ by simp) _, z⟩) ?_ | refine rG (fun _ z => ⟨_, wFirst_fs _ (Nat.le_of_ble_eq_true rfl), z⟩) ?_) | refine oN ?_ | refine aS ?_ | refine aR ?_ | refine aT ?_ | refine oZ rfl rfl rfl ?_ | refine oIf rfl rfl rfl (by omega) ?_ | refine dI (by kernel_rfl) ?_); (try conv => whnf))
    (rfl)
/-- What FactorsOf returns. -/
def facR (z : Int) (s : Iv) : List SV := if z ≠ 0 then [F4 0 0 0 0, I z] else if empS s then [F4 0 0 0 0, I 13] else [(true, iv s), I 0]
def difR (z e : Int) (s : Iv) : List SV := if z ≠ 0 then [I 0, I z] else if empS s then [I 2, I 0] else if e = 0 then [I 0, I 0] else [I 1, I 0]
theorem factorsOf_sat (e : Int) (q : Sp) (ch : List Sp) (sa : Int) (la : List Int) (sb : Int) (lb : List Int) (hq : SpI q) (hch : ∀ s ∈ ch, SpI s) (hc : ch.length ≤ 4294967296) (hla : la.length ≤ maxLen) (hlb : lb.length ≤ maxLen) :
    Sat cx.P cx.gl 40 [Ru e q ch, Rc sa la, Rc sb lb] (.tup (facR (pairErr e q ch sa la sb lb) (SS e q la lb))) := by
  have s1 := openPair_sat e q ch sa la sb lb hq hch hc hla hlb
  unfold facR
  by_cases h : pairErr e q ch sa la sb lb = 0
  · rw [h] at s1 ⊢
    rw [if_neg (by omega)]
    obtain ⟨he, hF, _, hn, hl, ha, hb⟩ := pair_facts h
    have s2 := all_sat hF he hl (by omega) ha hb
    have s3 := isEmpty_sat (SS_bd hF he hl ha hb)
    rw [show allS (sF q) e (PI la lb (rng la.length)) (sF q) = SS e q la lb from rfl] at s2
    generalize SS e q la lb = S at *
    by_cases hE : empS S
    · rw [if_pos hE]
      rw [decide_eq_true hE] at s3
      refine Sat_of_awp (fn := f40) cx_ok (by kernel_rfl) (by kernel_rfl) rfl (by kernel_rfl) (Nat.le_of_ble_eq_true rfl) ?_
      repeat ((first | refine oP rfl ?_ | refine rP rfl (fun _ z => z) ?_ | (refine kO 1 rfl ?_; refine rG (fun _ z => z) ?_) | (refine kO 3 rfl ?_; refine rG (fun _ z => z) ?_) | (refine kO 4 rfl ?_; refine rG (fun _ z => z) ?_) | (refine kO 7 rfl ?_; first | refine rG (fun _ z => ⟨_, s1, z⟩) ?_ | refine rG (fun _ z => ⟨_, s2, z⟩) ?_ | refine rG (fun _ z => ⟨_, s3, z⟩) ?_) | refine oN ?_ | refine aS ?_ | refine aR ?_ | refine aK ?_ | refine aT ?_ | refine aC rfl ?_ | refine bT ?_ | refine bF ?_); (try conv => whnf))
      (rfl)
    · rw [if_neg hE]
      rw [decide_eq_false hE] at s3
      refine Sat_of_awp (fn := f40) cx_ok (by kernel_rfl) (by kernel_rfl) rfl (by kernel_rfl) (Nat.le_of_ble_eq_true rfl) ?_
      repeat ((first | refine oP rfl ?_ | refine rP rfl (fun _ z => z) ?_ | (refine kO 1 rfl ?_; refine rG (fun _ z => z) ?_) | (refine kO 3 rfl ?_; refine rG (fun _ z => z) ?_) | (refine kO 4 rfl ?_; refine rG (fun _ z => z) ?_) | (refine kO 7 rfl ?_; first | refine rG (fun _ z => ⟨_, s1, z⟩) ?_ | refine rG (fun _ z => ⟨_, s2, z⟩) ?_ | refine rG (fun _ z => ⟨_, s3, z⟩) ?_) | refine oN ?_ | refine aS ?_ | refine aR ?_ | refine aK ?_ | refine aT ?_ | refine aC rfl ?_ | refine bF ?_); (try conv => whnf))
      (rfl)
  · rw [if_pos h]
    generalize pairErr e q ch sa la sb lb = z at *
    refine Sat_of_awp (fn := f40) cx_ok (by kernel_rfl) (by kernel_rfl) rfl (by kernel_rfl) (Nat.le_of_ble_eq_true rfl) ?_
    repeat ((first | refine oP rfl ?_ | refine rP rfl (fun _ z => z) ?_ | (refine kO 1 rfl ?_; refine rG (fun _ z => z) ?_) | (refine kO 3 rfl ?_; refine rG (fun _ z => z) ?_) | (refine kO 4 rfl ?_; refine rG (fun _ z => z) ?_) | (refine kO 7 rfl ?_; refine rG (fun _ z => ⟨_, s1, z⟩) ?_) | refine oN ?_ | refine aS ?_ | refine aR ?_ | refine aT ?_ | refine aC rfl ?_ | refine bPt (by omega) ?_); (try conv => whnf))
    (rfl)
theorem differenceOf_sat (e : Int) (q : Sp) (ch : List Sp) (sa : Int) (la : List Int) (sb : Int) (lb : List Int) (hq : SpI q) (hch : ∀ s ∈ ch, SpI s) (hc : ch.length ≤ 4294967296) (hla : la.length ≤ maxLen) (hlb : lb.length ≤ maxLen) :
    Sat cx.P cx.gl 41 [Ru e q ch, Rc sa la, Rc sb lb] (.tup (difR (pairErr e q ch sa la sb lb) e (SS e q la lb))) := by
  have s1 := openPair_sat e q ch sa la sb lb hq hch hc hla hlb
  unfold difR
  by_cases h : pairErr e q ch sa la sb lb = 0
  · rw [h] at s1 ⊢
    rw [if_neg (by omega)]
    obtain ⟨he, hF, _, hn, hl, ha, hb⟩ := pair_facts h
    have s2 := all_sat hF he hl (by omega) ha hb
    have s3 := isEmpty_sat (SS_bd hF he hl ha hb)
    rw [show allS (sF q) e (PI la lb (rng la.length)) (sF q) = SS e q la lb from rfl] at s2
    generalize SS e q la lb = S at *
    by_cases hE : empS S
    · rw [if_pos hE]
      rw [decide_eq_true hE] at s3
      refine Sat_of_awp (fn := f41) cx_ok (by kernel_rfl) (by kernel_rfl) rfl (by kernel_rfl) (Nat.le_of_ble_eq_true rfl) ?_
      repeat ((first | refine oP rfl ?_ | refine rP rfl (fun _ z => z) ?_ | (refine kO 1 rfl ?_; refine rG (fun _ z => z) ?_) | (refine kO 3 rfl ?_; refine rG (fun _ z => z) ?_) | (refine kO 4 rfl ?_; refine rG (fun _ z => z) ?_) | (refine kO 7 rfl ?_; first | refine rG (fun _ z => ⟨_, s1, z⟩) ?_ | refine rG (fun _ z => ⟨_, s2, z⟩) ?_ | refine rG (fun _ z => ⟨_, s3, z⟩) ?_) | refine oN ?_ | refine aS ?_ | refine aR ?_ | refine aB ?_ | refine aT ?_ | refine aC rfl ?_ | refine bT ?_ | refine bF ?_); (try conv => whnf))
      (done)
    · rw [if_neg hE]
      rw [decide_eq_false hE] at s3
      by_cases h0 : e = 0
      · rw [if_pos h0]
        refine Sat_of_awp (fn := f41) cx_ok (by kernel_rfl) (by kernel_rfl) rfl (by kernel_rfl) (Nat.le_of_ble_eq_true rfl) ?_
        repeat ((first | refine oP rfl ?_ | refine rP rfl (fun _ z => z) ?_ | (refine kO 1 rfl ?_; refine rG (fun _ z => z) ?_) | (refine kO 3 rfl ?_; first | refine rLdb rfl rfl rfl rfl rfl rfl rfl ?_ | refine rG (fun _ z => z) ?_) | (refine kO 4 rfl ?_; refine rG (fun _ z => z) ?_) | (refine kO 7 rfl ?_; first | refine rG (fun _ z => ⟨_, s1, z⟩) ?_ | refine rG (fun _ z => ⟨_, s2, z⟩) ?_ | refine rG (fun _ z => ⟨_, s3, z⟩) ?_) | refine oN ?_ | refine aS ?_ | refine aR ?_ | refine aB ?_ | refine aT ?_ | refine aC rfl ?_ | refine bF ?_ | refine bPt (by omega) ?_); (try conv => whnf))
        (done)
      · rw [if_neg h0]
        refine Sat_of_awp (fn := f41) cx_ok (by kernel_rfl) (by kernel_rfl) rfl (by kernel_rfl) (Nat.le_of_ble_eq_true rfl) ?_
        repeat ((first | refine oP rfl ?_ | refine rP rfl (fun _ z => z) ?_ | (refine kO 1 rfl ?_; refine rG (fun _ z => z) ?_) | (refine kO 3 rfl ?_; first | refine rLdb rfl rfl rfl rfl rfl rfl rfl ?_ | refine rG (fun _ z => z) ?_) | (refine kO 4 rfl ?_; refine rG (fun _ z => z) ?_) | (refine kO 7 rfl ?_; first | refine rG (fun _ z => ⟨_, s1, z⟩) ?_ | refine rG (fun _ z => ⟨_, s2, z⟩) ?_ | refine rG (fun _ z => ⟨_, s3, z⟩) ?_) | refine oN ?_ | refine aS ?_ | refine aR ?_ | refine aK ?_ | refine aB ?_ | refine aT ?_ | refine aC rfl ?_ | refine bF ?_ | refine bPf (by omega) ?_); (try conv => whnf))
        (done)
  · rw [if_pos h]
    generalize pairErr e q ch sa la sb lb = z at *
    refine Sat_of_awp (fn := f41) cx_ok (by kernel_rfl) (by kernel_rfl) rfl (by kernel_rfl) (Nat.le_of_ble_eq_true rfl) ?_
    repeat ((first | refine oP rfl ?_ | refine rP rfl (fun _ z => z) ?_ | (refine kO 1 rfl ?_; refine rG (fun _ z => z) ?_) | (refine kO 3 rfl ?_; refine rG (fun _ z => z) ?_) | (refine kO 4 rfl ?_; refine rG (fun _ z => z) ?_) | (refine kO 7 rfl ?_; refine rG (fun _ z => ⟨_, s1, z⟩) ?_) | refine oN ?_ | refine aS ?_ | refine aR ?_ | refine aB ?_ | refine aT ?_ | refine aC rfl ?_ | refine bPt (by omega) ?_); (try conv => whnf))
    (rfl)
end Go.Proofs.Tryd

namespace Go.Proofs.Tryd
open Go.Fw Go.IntWalk Go.Plain
set_option maxRecDepth 100000
set_option maxHeartbeats 8000000
theorem pairErr_sat (e : Int) (q : Sp) (ch : List Sp) (sa : Int) (la : List Int) (sb : Int) (lb : List Int) (hq : SpI q) (hch : ∀ s ∈ ch, SpI s) (hla : la.length ≤ maxLen) (hlb : lb.length ≤ maxLen) :
    Sat cx.P cx.gl 43 [Ru e q ch, Rc sa la, Rc sb lb] (.one (I (pairErr e q ch sa la sb lb))) := by
  have s1 := bothErr_sat e q ch sa la hq hch hla
  have s2 := refRecordErr_sat sb lb hlb
  have f : pairErr e q ch sa la sb lb = if bothErr e q ch sa la ≠ 0 then bothErr e q ch sa la else if recErr sb lb ≠ 0 then recErr sb lb else if sa = sb ∧ (la.length : Int) = lb.length then 0 else 10 := by
    unfold pairErr bothErr; (repeat' split) <;> omega
  rw [f]
  clear f
  generalize bothErr e q ch sa la = u at *
  generalize recErr sb lb = v at *
  by_cases h1 : u = 0
  · rw [if_neg (by omega)]
    by_cases h2 : v = 0
    · rw [if_neg (by omega)]
      subst h1 h2
      by_cases h3 : sa = sb
      · by_cases h4 : (la.length : Int) = lb.length
        · rw [if_pos ⟨h3, h4⟩]
          refine Sat_of_awp (fn := f43) cx_ok (by kernel_rfl) (by kernel_rfl) rfl (by kernel_rfl) (Nat.le_of_ble_eq_true rfl) ?_
          repeat ((first | refine oP rfl ?_ | refine rP rfl (fun _ z => z) ?_ | (refine kO 1 rfl ?_; refine rG (fun _ z => z) ?_) | (refine kO 3 rfl ?_; first | refine rLdb rfl rfl rfl rfl rfl rfl rfl ?_ | refine rG (fun _ z => z) ?_) | (refine kO 7 rfl ?_; first | refine rG (fun _ z => ⟨_, s1, z⟩) ?_ | refine rG (fun _ z => ⟨_, s2, z⟩) ?_) | (refine kO 6 rfl ?_; refine rLen rfl rfl rfl rfl rfl rfl ?_) | refine oN ?_ | refine aS ?_ | refine aR ?_ | refine aK ?_ | refine aT ?_ | refine aC rfl ?_ | refine bF ?_ | refine bPf (by omega) ?_ | refine oY rfl rfl rfl ?_ | refine oUf rfl rfl rfl (by omega) ?_); (try conv => whnf))
          (done)
        · rw [if_neg (fun h => h4 h.2)]
          refine Sat_of_awp (fn := f43) cx_ok (by kernel_rfl) (by kernel_rfl) rfl (by kernel_rfl) (Nat.le_of_ble_eq_true rfl) ?_
          repeat ((first | refine oP rfl ?_ | refine rP rfl (fun _ z => z) ?_ | (refine kO 1 rfl ?_; refine rG (fun _ z => z) ?_) | (refine kO 3 rfl ?_; first | refine rLdb rfl rfl rfl rfl rfl rfl rfl ?_ | refine rG (fun _ z => z) ?_) | (refine kO 7 rfl ?_; first | refine rG (fun _ z => ⟨_, s1, z⟩) ?_ | refine rG (fun _ z => ⟨_, s2, z⟩) ?_) | (refine kO 6 rfl ?_; refine rLen rfl rfl rfl rfl rfl rfl ?_) | refine oN ?_ | refine aS ?_ | refine aR ?_ | refine aK ?_ | refine aT ?_ | refine aC rfl ?_ | refine bF ?_ | refine bPt (by omega) ?_ | refine oY rfl rfl rfl ?_ | refine oUf rfl rfl rfl (by omega) ?_); (try conv => whnf))
          (done)
      · rw [if_neg (fun h => h3 h.1)]
        refine Sat_of_awp (fn := f43) cx_ok (by kernel_rfl) (by kernel_rfl) rfl (by kernel_rfl) (Nat.le_of_ble_eq_true rfl) ?_
        repeat ((first | refine oP rfl ?_ | refine rP rfl (fun _ z => z) ?_ | (refine kO 1 rfl ?_; refine rG (fun _ z => z) ?_) | (refine kO 3 rfl ?_; first | refine rLdb rfl rfl rfl rfl rfl rfl rfl ?_ | refine rG (fun _ z => z) ?_) | (refine kO 7 rfl ?_; first | refine rG (fun _ z => ⟨_, s1, z⟩) ?_ | refine rG (fun _ z => ⟨_, s2, z⟩) ?_) | refine oN ?_ | refine aS ?_ | refine aR ?_ | refine aK ?_ | refine aT ?_ | refine aC rfl ?_ | refine bT ?_ | refine bF ?_ | refine oZ rfl rfl rfl ?_ | refine oUt rfl rfl rfl (by omega) ?_); (try conv => whnf))
        (done)
    · rw [if_pos h2]
      subst h1
      refine Sat_of_awp (fn := f43) cx_ok (by kernel_rfl) (by kernel_rfl) rfl (by kernel_rfl) (Nat.le_of_ble_eq_true rfl) ?_
      repeat ((first | refine oP rfl ?_ | refine rP rfl (fun _ z => z) ?_ | (refine kO 1 rfl ?_; refine rG (fun _ z => z) ?_) | (refine kO 3 rfl ?_; refine rG (fun _ z => z) ?_) | (refine kO 7 rfl ?_; first | refine rG (fun _ z => ⟨_, s1, z⟩) ?_ | refine rG (fun _ z => ⟨_, s2, z⟩) ?_) | refine oN ?_ | refine aS ?_ | refine aR ?_ | refine aK ?_ | refine aT ?_ | refine aC rfl ?_ | refine bF ?_ | refine bPt (by omega) ?_); (try conv => whnf))
      (rfl)
  · rw [if_pos h1]
    refine Sat_of_awp (fn := f43) cx_ok (by kernel_rfl) (by kernel_rfl) rfl (by kernel_rfl) (Nat.le_of_ble_eq_true rfl) ?_
    repeat ((first | refine oP rfl ?_ | refine rP rfl (fun _ z => z) ?_ | (refine kO 1 rfl ?_; refine rG (fun _ z => z) ?_) | (refine kO 3 rfl ?_; refine rG (fun _ z => z) ?_) | (refine kO 7 rfl ?_; refine rG (fun _ z => ⟨_, s1, z⟩) ?_) | refine oN ?_ | refine aS ?_ | refine aR ?_ | refine aT ?_ | refine aC rfl ?_ | refine bPt (by omega) ?_); (try conv => whnf))
    (rfl)
theorem qLowest_sat {n d : Int} (hn : b5 n) (hd : 1 ≤ d ∧ d ≤ 5000) : Sat cx.P cx.gl 93 [I n, I d] (.one (qv (lowQ n d))) := Lowest_sat n d ⟨by omega, by omega⟩ (by omega)
theorem quo_neg {n g : Int} (hn : inR (-n)) (hg : 0 < g) (hd : g ∣ n) : IntKind.i64.wrap (n.tdiv (-g)) = -n / g := by
  rw [Int.tdiv_neg, ← Int.neg_tdiv]
  exact quo_div hn hg (Int.dvd_neg.2 hd)
theorem qLowestN_sat {n d : Int} (hn : b5 n) (hd : -5000 ≤ d ∧ d ≤ -1) : Sat cx.P cx.gl 93 [I n, I d] (.one (qv (lowQ (-n) (-d)))) := by
  have g := gcd_sat n d ⟨by omega, by omega⟩ ⟨by omega, by omega⟩ (fun _ => by omega)
  have hp := Int.gcd_pos_of_ne_zero_right n (show d ≠ 0 by omega)
  have hle : Int.gcd n d ≤ 5000 := by
    have := Nat.le_of_dvd (by omega) (Int.gcd_dvd_natAbs_right n d)
    omega
  have e1 : Int.gcd (-n) (-d) = Int.gcd n d := by rw [Int.gcd_neg, Int.neg_gcd]
  unfold lowQ lowNum lowDen
  rw [e1]
  have d1 : (Int.gcd n d : Int) ∣ n := Int.gcd_dvd_left ..
  have d2 : (Int.gcd n d : Int) ∣ d := Int.gcd_dvd_right ..
  generalize hk : (Int.gcd n d : Int) = k at *
  refine Sat_of_awp (fn := f93) cx_ok (by kernel_rfl) (by kernel_rfl) rfl (by kernel_rfl) (Nat.le_of_ble_eq_true rfl) ?_
  repeat ((first | refine oP rfl ?_ | refine rP rfl (fun _ z => z) ?_ | (refine kO 1 rfl ?_; first | refine rQuo' rfl rfl rfl (by omega) ?_ | refine rG (fun _ z => z) ?_) | (refine kO 2 rfl ?_; refine rNeg rfl rfl (by omega) ?_) | (refine kO 4 rfl ?_; refine rG (fun _ z => z) ?_) | (refine kO 7 rfl ?_; refine rG (fun _ z => ⟨_, g, z⟩) ?_) | refine oN ?_ | refine aS ?_ | refine aR ?_ | refine aT ?_ | refine aC rfl ?_ | refine bPt (by omega) ?_ | refine dI (by kernel_rfl) ?_); (try conv => whnf))
  exact res_f2 (quo_neg ⟨by omega, by omega⟩ (by omega) d1) (quo_neg ⟨by omega, by omega⟩ (by omega) d2)
def cq (x y : Qn) : Int := cmpF x.1 x.2 y.1 y.2
theorem cq_lt (x y : Qn) : cq x y < 0 ↔ ltQ x y := by
  unfold cq cmpF ltQ; (repeat' split) <;> omega
theorem cq_gt (x y : Qn) : cq x y > 0 ↔ ltQ y x := by
  unfold cq cmpF ltQ; (repeat' split) <;> omega
theorem cq_le (x y : Qn) : cq x y ≤ 0 ↔ ¬ ltQ y x := by rw [← cq_gt]; omega
theorem qcmp_sat {x y : Qn} (hx : bdQ x) (hy : bdQ y) : Sat cx.P cx.gl 68 [qv x, qv y] (.one (I (cq x y))) := by
  have h1 := bd_mid hx hy
  have h2 := bd_mid hy hx
  exact cmp_sat x.1 x.2 y.1 y.2 (by unfold mid at h1; omega) (by unfold mid at h2; omega)
/-- What limit returns. -/
def lm (s : Iv) (n m : Int) : Iv × Bool := if n = 0 ∧ m < 0 then (s, false) else (amS s n m, decide (¬ empS (amS s n m)))
theorem limit_sat {s : Iv} {n m : Int} (h : bdS s) (hn : b5 n) (hm : b5 m) : Sat cx.P cx.gl 102 [(true, iv s), I n, I m] (.tup [(true, iv (lm s n m).1), Bo (lm s n m).2]) := by
  have hB := am_bd h hn hm
  have g3 := qcmp_sat hB.1 hB.2
  have e3 : decide (¬ empS (amS s n m)) = decide (cq (amS s n m).1 (amS s n m).2 ≤ 0) := decide_eq_decide.2 (cq_le _ _).symm
  unfold lm
  by_cases h0 : n = 0 ∧ m < 0
  · rw [if_pos h0]
    refine Sat_of_awp (fn := f102) cx_ok (by kernel_rfl) (by kernel_rfl) rfl (by kernel_rfl) (Nat.le_of_ble_eq_true rfl) ?_
    repeat ((first | refine oP rfl ?_ | refine rP rfl (fun _ z => z) ?_ | (refine kO 1 rfl ?_; refine rG (fun _ z => z) ?_) | (refine kO 3 rfl ?_; refine rG (fun _ z => z) ?_) | (refine kO 4 rfl ?_; refine rG (fun _ z => z) ?_) | refine oN ?_ | refine aS ?_ | refine aR ?_ | refine aT ?_ | refine aC rfl ?_ | refine bPt (by omega) ?_ | refine bPf (by omega) ?_); (try conv => whnf))
    (rfl)
  · rw [if_neg h0, e3]
    clear e3 hB
    dsimp only
    by_cases h1 : n > 0
    · have g1 := qLowest_sat (n := m) (d := n) hm (by omega)
      have g2 := qcmp_sat (low_bdQ (n := m) (d := n) (by omega) (by omega)) h.2
      have ea : amS s n m = (s.1, mnQ s.2 (lowQ m n)) := if_pos h1
      rw [ea] at g3 ⊢
      dsimp only at g3 ⊢
      have c2 := cq_lt (lowQ m n) s.2
      by_cases hL : ltQ (lowQ m n) s.2
      · have hc := c2.2 hL
        rw [show mnQ s.2 (lowQ m n) = lowQ m n from if_pos hL] at g3 ⊢
        generalize cq (lowQ m n) s.2 = k2 at *
        generalize lowQ m n = f at *
        generalize cq s.1 f = k3 at *
        refine Sat_of_awp (fn := f102) cx_ok (by kernel_rfl) (by kernel_rfl) rfl (by kernel_rfl) (Nat.le_of_ble_eq_true rfl) ?_
        repeat ((first | refine oP rfl ?_ | refine rP rfl (fun _ z => z) ?_ | (refine kO 1 rfl ?_; refine rG (fun _ z => z) ?_) | (refine kO 3 rfl ?_; refine rG (fun _ z => z) ?_) | (refine kO 4 rfl ?_; refine rG (fun _ z => z) ?_) | (refine kO 7 rfl ?_; first | refine rG (fun _ z => ⟨_, g1, z⟩) ?_ | refine rG (fun _ z => ⟨_, g2, z⟩) ?_ | refine rG (fun _ z => ⟨_, g3, z⟩) ?_) | refine oN ?_ | refine aS ?_ | refine aR ?_ | refine aT ?_ | refine aC rfl ?_ | refine bPt (by omega) ?_ | refine dI (by kernel_rfl) ?_); (try conv => whnf))
        (rfl)
      · have hc := fun hh => hL (c2.1 hh)
        rw [show mnQ s.2 (lowQ m n) = s.2 from if_neg hL] at g3 ⊢
        generalize cq (lowQ m n) s.2 = k2 at *
        generalize lowQ m n = f at *
        generalize cq s.1 s.2 = k3 at *
        refine Sat_of_awp (fn := f102) cx_ok (by kernel_rfl) (by kernel_rfl) rfl (by kernel_rfl) (Nat.le_of_ble_eq_true rfl) ?_
        repeat ((first | refine oP rfl ?_ | refine rP rfl (fun _ z => z) ?_ | (refine kO 1 rfl ?_; refine rG (fun _ z => z) ?_) | (refine kO 3 rfl ?_; refine rG (fun _ z => z) ?_) | (refine kO 4 rfl ?_; refine rG (fun _ z => z) ?_) | (refine kO 7 rfl ?_; first | refine rG (fun _ z => ⟨_, g1, z⟩) ?_ | refine rG (fun _ z => ⟨_, g2, z⟩) ?_ | refine rG (fun _ z => ⟨_, g3, z⟩) ?_) | refine oN ?_ | refine aS ?_ | refine aR ?_ | refine aK ?_ | refine aT ?_ | refine aC rfl ?_ | refine bPt (by omega) ?_ | refine bPf (by omega) ?_ | refine dI (by kernel_rfl) ?_); (try conv => whnf))
        (rfl)
    · by_cases h2 : n < 0
      · have g1 := qLowestN_sat (n := m) (d := n) hm (by omega)
        have g2 := qcmp_sat (low_bdQ (n := -m) (d := -n) (by omega) (by omega)) h.1
        have ea : amS s n m = (mxQ s.1 (lowQ (-m) (-n)), s.2) := by unfold amS; rw [if_neg h1, if_pos h2]
        rw [ea] at g3 ⊢
        dsimp only at g3 ⊢
        have c2 := cq_gt (lowQ (-m) (-n)) s.1
        by_cases hL : ltQ s.1 (lowQ (-m) (-n))
        · have hc := c2.2 hL
          rw [show mxQ s.1 (lowQ (-m) (-n)) = lowQ (-m) (-n) from if_pos hL] at g3 ⊢
          generalize cq (lowQ (-m) (-n)) s.1 = k2 at *
          generalize lowQ (-m) (-n) = f at *
          generalize cq f s.2 = k3 at *
          refine Sat_of_awp (fn := f102) cx_ok (by kernel_rfl) (by kernel_rfl) rfl (by kernel_rfl) (Nat.le_of_ble_eq_true rfl) ?_
          repeat ((first | refine oP rfl ?_ | refine rP rfl (fun _ z => z) ?_ | (refine kO 1 rfl ?_; refine rG (fun _ z => z) ?_) | (refine kO 3 rfl ?_; refine rG (fun _ z => z) ?_) | (refine kO 4 rfl ?_; refine rG (fun _ z => z) ?_) | (refine kO 7 rfl ?_; first | refine rG (fun _ z => ⟨_, g1, z⟩) ?_ | refine rG (fun _ z => ⟨_, g2, z⟩) ?_ | refine rG (fun _ z => ⟨_, g3, z⟩) ?_) | refine oN ?_ | refine aS ?_ | refine aR ?_ | refine aT ?_ | refine aC rfl ?_ | refine bPt (by omega) ?_ | refine bPf (by omega) ?_ | refine dI (by kernel_rfl) ?_); (try conv => whnf))
          (rfl)
        · have hc := fun hh => hL (c2.1 hh)
          rw [show mxQ s.1 (lowQ (-m) (-n)) = s.1 from if_neg hL] at g3 ⊢
          generalize cq (lowQ (-m) (-n)) s.1 = k2 at *
          generalize lowQ (-m) (-n) = f at *
          generalize cq s.1 s.2 = k3 at *
          refine Sat_of_awp (fn := f102) cx_ok (by kernel_rfl) (by kernel_rfl) rfl (by kernel_rfl) (Nat.le_of_ble_eq_true rfl) ?_
          repeat ((first | refine oP rfl ?_ | refine rP rfl (fun _ z => z) ?_ | (refine kO 1 rfl ?_; refine rG (fun _ z => z) ?_) | (refine kO 3 rfl ?_; refine rG (fun _ z => z) ?_) | (refine kO 4 rfl ?_; refine rG (fun _ z => z) ?_) | (refine kO 7 rfl ?_; first | refine rG (fun _ z => ⟨_, g1, z⟩) ?_ | refine rG (fun _ z => ⟨_, g2, z⟩) ?_ | refine rG (fun _ z => ⟨_, g3, z⟩) ?_) | refine oN ?_ | refine aS ?_ | refine aR ?_ | refine aK ?_ | refine aT ?_ | refine aC rfl ?_ | refine bPt (by omega) ?_ | refine bPf (by omega) ?_ | refine dI (by kernel_rfl) ?_); (try conv => whnf))
          (rfl)
      · have ea : amS s n m = s := by unfold amS; rw [if_neg h1, if_neg h2, if_neg (by omega)]
        rw [ea] at g3 ⊢
        generalize cq s.1 s.2 = k3 at *
        refine Sat_of_awp (fn := f102) cx_ok (by kernel_rfl) (by kernel_rfl) rfl (by kernel_rfl) (Nat.le_of_ble_eq_true rfl) ?_
        repeat ((first | refine oP rfl ?_ | refine rP rfl (fun _ z => z) ?_ | (refine kO 1 rfl ?_; refine rG (fun _ z => z) ?_) | (refine kO 3 rfl ?_; refine rG (fun _ z => z) ?_) | (refine kO 4 rfl ?_; refine rG (fun _ z => z) ?_) | (refine kO 7 rfl ?_; refine rG (fun _ z => ⟨_, g3, z⟩) ?_) | refine oN ?_ | refine aS ?_ | refine aR ?_ | refine aK ?_ | refine aT ?_ | refine aC rfl ?_ | refine bPf (by omega) ?_ | refine dI (by kernel_rfl) ?_); (try conv => whnf))
        (rfl)
end Go.Proofs.Tryd

namespace Go.Proofs.Tryd
open Go.Fw Go.IntWalk Go.Plain
set_option maxRecDepth 100000
set_option maxHeartbeats 8000000
theorem oneS_app (e : Int) (k : List (Int × Int)) : ∀ (l : List (Int × Int)) (s : Option Iv), oneS e (l ++ k) s = oneS e k (oneS e l s)
  | [], _ => rfl
  | _ :: l, _ => oneS_app e k l _
theorem limS_lm (s : Iv) (n m : Int) : limS s n m = if (lm s n m).2 then some (lm s n m).1 else none := by
  unfold limS lm
  by_cases h : n = 0 ∧ m < 0
  · rw [if_pos h, if_pos h]; simp
  · rw [if_neg h, if_neg h]
    by_cases h' : empS (amS s n m)
    · rw [if_pos h']; simp [h']
    · rw [if_neg h']; simp [h']
theorem lm_bd {s : Iv} {n m : Int} (h : bdS s) (hn : b5 n) (hm : b5 m) : bdS (lm s n m).1 := by
  unfold lm
  split
  · exact h
  · exact am_bd h hn hm
abbrev vBo (b : Bool) : Option DV := some (.val (false, [.st (.lit (.bool b))]))
/-- What Factors returns. -/
def facO (o : Option Iv) : List SV := match o with | some s => [(true, iv s), Bo true] | none => [F4 0 0 0 0, Bo false]
theorem refFactors_sat {e : Int} {q : Sp} (ch : List Sp) (sa sb : Int) {la lb ix : List Int} (h : bdS (sF q)) (he : 0 ≤ e ∧ e ≤ 100) (hl : la.length = lb.length) (hx : ix.length ≤ 70) (ha : smpl la) (hb : smpl lb) (hi : ∀ w ∈ ix, 0 ≤ w ∧ w < la.length) :
    Sat cx.P cx.gl 44 [Ru e q ch, Rc sa la, Rc sb lb, L ix] (.tup (facO (oneS e (PI la lb ix) (some (sF q))))) := by
  refine Sat_of_awp (fn := f44) cx_ok (by kernel_rfl) (by kernel_rfl) rfl (by kernel_rfl) (Nat.le_of_ble_eq_true rfl) ?_
  repeat ((first | refine oP rfl ?_ | refine rP rfl (fun _ z => z) ?_ | (refine kO 3 rfl ?_; refine rG (fun _ z => z) ?_) | (refine kO 4 rfl ?_; refine rG (fun _ z => z) ?_) | refine oN ?_ | refine aS ?_ | refine aR ?_ | refine aB ?_ | refine aL ?_); (try conv => whnf))
  refine loop_ind (ι := Nat × Iv × Bool) (fun p => p.1 ≤ ix.length ∧ bdS p.2.1 ∧ if p.2.2 then oneS e (PI la lb (ix.take p.1)) (some (sF q)) = some p.2.1 else oneS e (PI la lb ix) (some (sF q)) = none) (fun p => ix.length - p.1)
    (fun p => ⟨[(3, vL ix), (4, pP 0), (5, pP 1), (6, pP 2), (8, pP 3), (10, pP 4), (11, vBo p.2.2), (12, vI p.1)], [(0, bRu e q ch), (1, bRc sa la), (2, bRc sb lb), (3, some (.box 25 [.st (J 0), .st (J 0), .st (J 0), .st (J 0)])), (4, some (.box 25 ((iv p.2.1).map .st)))], 5⟩) (0, sF q, true) (canon_auto (by kernel_rfl)) ⟨Nat.zero_le _, h, rfl⟩ ?_
  rintro ⟨i, s, ok⟩ ⟨hi', hB, hs⟩
  dsimp only at hi' hB hs ⊢
  cases ok
  · rw [if_neg (by decide)] at hs
    rw [hs]
    by_cases hlt : i < ix.length
    · repeat ((first | refine oP rfl ?_ | refine rP rfl (fun _ z => z) ?_ | (refine kO 1 rfl ?_; refine rG (fun _ z => z) ?_) | (refine kO 2 rfl ?_; refine rG (fun _ z => z) ?_) | (refine kO 4 rfl ?_; refine rG (fun _ z => z) ?_) | (refine kO 6 rfl ?_; refine rLen rfl rfl rfl rfl rfl rfl ?_) | refine oN ?_ | refine aS ?_ | refine aR ?_ | refine aX ?_ | refine aT ?_ | refine aC rfl ?_ | refine bT ?_ | refine bF ?_ | refine oIt rfl rfl rfl (by omega) ?_); (try conv => whnf))
      (rfl)
    · repeat ((first | refine oP rfl ?_ | refine rP rfl (fun _ z => z) ?_ | (refine kO 1 rfl ?_; refine rG (fun _ z => z) ?_) | (refine kO 2 rfl ?_; refine rG (fun _ z => z) ?_) | (refine kO 4 rfl ?_; refine rG (fun _ z => z) ?_) | (refine kO 6 rfl ?_; refine rLen rfl rfl rfl rfl rfl rfl ?_) | refine oN ?_ | refine aS ?_ | refine aR ?_ | refine aX ?_ | refine aT ?_ | refine aC rfl ?_ | refine bT ?_ | refine bF ?_ | refine oIf rfl rfl rfl (by omega) ?_); (try conv => whnf))
      (rfl)
  · rw [if_pos rfl] at hs
    by_cases hlt : i < ix.length
    · have hw := hi _ (getD_mem (d := 0) hlt)
      have hwx := getD_in ha (show (ix.getD i 0).toNat < la.length by omega)
      have hwy := getD_in hb (show (ix.getD i 0).toNat < lb.length by omega)
      have e1 : oneS e (PI la lb (ix.take (i + 1))) (some (sF q)) = stepR s e (la.getD (ix.getD i 0).toNat 0) (lb.getD (ix.getD i 0).toNat 0) := by
        rw [take_snoc hlt, PI_snoc, oneS_app, hs]; rfl
      have e2 : oneS e (PI la lb ix) (some (sF q)) = oneS e (PI la lb (ix.drop (i + 1))) (oneS e (PI la lb (ix.take (i + 1))) (some (sF q))) := by
        rw [← oneS_app, PI, PI, PI, ← List.map_append, List.take_append_drop]
      have g1 := limit_sat (s := s) (n := la.getD (ix.getD i 0).toNat 0 - e) (m := lb.getD (ix.getD i 0).toNat 0 + e) hB (by omega) (by omega)
      have d1 := lm_bd (s := s) (n := la.getD (ix.getD i 0).toNat 0 - e) (m := lb.getD (ix.getD i 0).toNat 0 + e) hB (by omega) (by omega)
      unfold stepR at e1
      rw [limS_lm] at e1
      generalize lm s (la.getD (ix.getD i 0).toNat 0 - e) (lb.getD (ix.getD i 0).toNat 0 + e) = A at *
      obtain ⟨s1, o1⟩ := A
      dsimp only at g1 d1 e1
      cases o1
      · rw [if_neg (by decide), Option.bind_none] at e1
        rw [e1, one_none] at e2
        repeat ((first | refine oP rfl ?_ | refine rP rfl (fun _ z => z) ?_ | (refine kO 1 rfl ?_; first | refine rAdd rfl rfl rfl (by omega) ?_ | refine rSub rfl rfl rfl (by omega) ?_ | refine rG (fun _ z => z) ?_) | (refine kO 3 rfl ?_; first | refine rLdr rfl rfl rfl rfl rfl ?_ | refine rLdb rfl rfl rfl rfl rfl rfl rfl ?_ | refine rG (fun _ z => z) ?_) | (refine kO 4 rfl ?_; refine rG (fun _ z => z) ?_) | (refine kO 5 rfl ?_; first | refine rIdN rfl rfl rfl rfl rfl rfl rfl (by omega) ?_ | refine rIdx rfl rfl rfl rfl rfl rfl rfl (by omega) ?_) | (refine kO 7 rfl ?_; refine rG (fun _ z => ⟨_, g1, z⟩) ?_) | (refine kO 6 rfl ?_; refine rLen rfl rfl rfl rfl rfl rfl ?_) | refine oN ?_ | refine aS ?_ | refine aR ?_ | refine aK ?_ | refine aB ?_ | refine aC rfl ?_ | refine bT ?_ | refine bF ?_ | refine oIt rfl rfl rfl (by omega) ?_ | refine dI (by kernel_rfl) ?_); (try conv => whnf))
        exact ⟨(i + 1, s1, false), ⟨hlt, d1, by dsimp only; rw [if_neg (by decide)]; exact e2⟩, by dsimp only; omega, canon_auto (by kernel_rfl)⟩
      · rw [if_pos rfl, Option.bind_some, limS_lm] at e1
        have g2 := limit_sat (s := s1) (n := -la.getD (ix.getD i 0).toNat 0 - e) (m := e - lb.getD (ix.getD i 0).toNat 0) d1 (by omega) (by omega)
        have d2 := lm_bd (s := s1) (n := -la.getD (ix.getD i 0).toNat 0 - e) (m := e - lb.getD (ix.getD i 0).toNat 0) d1 (by omega) (by omega)
        generalize lm s1 (-la.getD (ix.getD i 0).toNat 0 - e) (e - lb.getD (ix.getD i 0).toNat 0) = A at *
        obtain ⟨s2, o2⟩ := A
        dsimp only at g2 d2 e1
        repeat ((first | refine oP rfl ?_ | refine rP rfl (fun _ z => z) ?_ | (refine kO 1 rfl ?_; first | refine rAdd rfl rfl rfl (by omega) ?_ | refine rSub rfl rfl rfl (by omega) ?_ | refine rG (fun _ z => z) ?_) | (refine kO 2 rfl ?_; refine rNeg rfl rfl (by omega) ?_) | (refine kO 3 rfl ?_; first | refine rLdr rfl rfl rfl rfl rfl ?_ | refine rLdb rfl rfl rfl rfl rfl rfl rfl ?_ | refine rG (fun _ z => z) ?_) | (refine kO 4 rfl ?_; refine rG (fun _ z => z) ?_) | (refine kO 5 rfl ?_; first | refine rIdN rfl rfl rfl rfl rfl rfl rfl (by omega) ?_ | refine rIdx rfl rfl rfl rfl rfl rfl rfl (by omega) ?_) | (refine kO 7 rfl ?_; first | refine rG (fun _ z => ⟨_, g1, z⟩) ?_ | refine rG (fun _ z => ⟨_, g2, z⟩) ?_) | (refine kO 6 rfl ?_; refine rLen rfl rfl rfl rfl rfl rfl ?_) | refine oN ?_ | refine aS ?_ | refine aR ?_ | refine aK ?_ | refine aB ?_ | refine aC rfl ?_ | refine bT ?_ | refine oIt rfl rfl rfl (by omega) ?_ | refine dI (by kernel_rfl) ?_); (try conv => whnf))
        refine ⟨(i + 1, s2, o2), ⟨hlt, d2, ?_⟩, by dsimp only; omega, canon_auto (by kernel_rfl)⟩
        dsimp only
        cases o2
        · rw [if_neg (by decide)] at e1 ⊢
          rw [e1, one_none] at e2
          exact e2
        · exact e1
    · obtain rfl : i = ix.length := by omega
      rw [List.take_length] at hs
      rw [hs]
      repeat ((first | refine oP rfl ?_ | refine rP rfl (fun _ z => z) ?_ | (refine kO 1 rfl ?_; refine rG (fun _ z => z) ?_) | (refine kO 2 rfl ?_; refine rG (fun _ z => z) ?_) | (refine kO 3 rfl ?_; refine rG (fun _ z => z) ?_) | (refine kO 4 rfl ?_; refine rG (fun _ z => z) ?_) | (refine kO 6 rfl ?_; refine rLen rfl rfl rfl rfl rfl rfl ?_) | refine oN ?_ | refine aS ?_ | refine aR ?_ | refine aK ?_ | refine aX ?_ | refine aT ?_ | refine aC rfl ?_ | refine bF ?_ | refine oIf rfl rfl rfl (by omega) ?_); (try conv => whnf))
      (rfl)
theorem refAll_sat (st : Int) {l : List Int} (h : 1 ≤ l.length ∧ l.length ≤ 64) : Sat cx.P cx.gl 45 [Rc st l] (.own 1 (.ints (rng l.length))) := by
  refine Sat_of_awp (fn := f45) cx_ok (by kernel_rfl) (by kernel_rfl) rfl (by kernel_rfl) (Nat.le_of_ble_eq_true rfl) ?_
  repeat ((first | refine oP rfl ?_ | refine rP rfl (fun _ z => z) ?_ | refine oN ?_ | refine aS ?_ | refine aR ?_ | refine aB ?_ | refine aL ?_); (try conv => whnf))
  refine loop_round ?_
  repeat ((first | refine oP rfl ?_ | refine rP rfl (fun _ z => z) ?_ | (refine kO 1 rfl ?_; first | refine rAdd rfl rfl rfl (by omega) ?_ | refine rG (fun _ z => z) ?_) | (refine kO 3 rfl ?_; refine rLdb rfl rfl rfl rfl rfl rfl rfl ?_) | (refine kO 6 rfl ?_; refine rLen rfl rfl rfl rfl rfl rfl ?_) | refine oN ?_ | refine aS ?_ | refine aR ?_ | refine aK ?_ | refine aB ?_ | refine aC rfl ?_ | refine bPt (by omega) ?_ | refine rG (fun _ z => ⟨(by (rfl)), (by (decide)), z⟩) ?_); (try conv => whnf))
  refine loop_ind (ι := Nat) (fun i => 1 ≤ i ∧ i ≤ l.length) (fun i => l.length - i) (fun i => ⟨[(1, pP 0), (3, pO 1), (4, vI i)], [(0, bRc st l), (1, some (.row true 1 (.ints (rng i))))], 2⟩) 1 (canon_auto (by kernel_rfl)) ⟨by omega, by omega⟩ ?_
  rintro i ⟨h1, h2⟩
  by_cases hlt : i < l.length
  · have n1 := rng_len i
    have e1 := rng_succ i
    generalize rng i = r at *
    repeat ((first | refine oP rfl ?_ | refine rP rfl (fun _ z => z) ?_ | (refine kO 1 rfl ?_; first | refine rAdd rfl rfl rfl (by omega) ?_ | refine rG (fun _ z => z) ?_) | (refine kO 3 rfl ?_; refine rLdb rfl rfl rfl rfl rfl rfl rfl ?_) | (refine kO 6 rfl ?_; refine rLen rfl rfl rfl rfl rfl rfl ?_) | refine oN ?_ | refine aS ?_ | refine aR ?_ | refine aK ?_ | refine aB ?_ | refine aC rfl ?_ | refine bPt (by omega) ?_ | refine rG (fun _ z => ⟨(by (rfl)), (by (exact lnS (by omega))), z⟩) ?_); (try conv => whnf))
    exact ⟨i + 1, ⟨by omega, hlt⟩, by omega, canon_auto (by rw [e1]; kernel_rfl)⟩
  · obtain rfl : i = l.length := by omega
    repeat ((first | refine oP rfl ?_ | refine rP rfl (fun _ z => z) ?_ | (refine kO 1 rfl ?_; refine rG (fun _ z => z) ?_) | (refine kO 3 rfl ?_; refine rLdb rfl rfl rfl rfl rfl rfl rfl ?_) | (refine kO 6 rfl ?_; refine rLen rfl rfl rfl rfl rfl rfl ?_) | refine oN ?_ | refine aS ?_ | refine aR ?_ | refine aX ?_ | refine aT ?_ | refine aC rfl ?_ | refine bPf (by omega) ?_); (try conv => whnf))
    (done)
end Go.Proofs.Tryd

namespace Go.Proofs.Tryd
open Go.Fw Go.IntWalk Go.Plain
set_option maxRecDepth 100000
set_option maxHeartbeats 8000000
/-- A pair of records. -/
abbrev Rp (sa : Int) (la : List Int) (sb : Int) (lb : List Int) : SV := (true, [J sa, .ints la, J sb, .ints lb])
/-- The program's all and the reference's one by one. -/
theorem factors_one {e : Int} {q : Sp} {ch : List Sp} {sa : Int} {la : List Int} {sb : Int} {lb : List Int} (h : pairErr e q ch sa la sb lb = 0) :
    (∃ o, oneS e (PI la lb (rng la.length)) (some (sF q)) = some o ∧ SS e q la lb = o ∧ ¬ empS o) ∨ (oneS e (PI la lb (rng la.length)) (some (sF q)) = none ∧ empS (SS e q la lb)) := by
  obtain ⟨_, hF, hne, _⟩ := pair_facts h
  exact all_one (bdS_pos hF) (PI la lb (rng la.length)) (bdS_pos hF) (within_refl _) hne
theorem refDifferenceOf_sat (e : Int) (q : Sp) (ch : List Sp) (sa : Int) (la : List Int) (sb : Int) (lb : List Int) (hq : SpI q) (hch : ∀ s ∈ ch, SpI s) (hla : la.length ≤ maxLen) (hlb : lb.length ≤ maxLen) :
    Sat cx.P cx.gl 42 [Ru e q ch, Rc sa la, Rc sb lb] (.tup (difR (pairErr e q ch sa la sb lb) e (SS e q la lb))) := by
  have s1 := pairErr_sat e q ch sa la sb lb hq hch hla hlb
  unfold difR
  by_cases h : pairErr e q ch sa la sb lb = 0
  · obtain ⟨he, hF, _, hn, hl, ha, hb⟩ := pair_facts h
    have s2 := refAll_sat sa (l := la) (by omega)
    have s3 := refFactors_sat (ix := rng la.length) ch sa sb hF he hl (by rw [rng_len]; omega) ha hb (fun w hw => rng_in _ w hw)
    have hf := factors_one h
    rw [h] at s1 ⊢
    rw [if_neg (by omega)]
    generalize SS e q la lb = S at *
    generalize oneS e (PI la lb (rng la.length)) (some (sF q)) = O at *
    generalize rng la.length = r at *
    rcases hf with ⟨o, rfl, rfl, h1⟩ | ⟨rfl, h1⟩
    · rw [if_neg h1]
      unfold facO at s3
      by_cases h0 : e = 0
      · rw [if_pos h0]
        refine Sat_of_awp (fn := f42) cx_ok (by kernel_rfl) (by kernel_rfl) rfl (by kernel_rfl) (Nat.le_of_ble_eq_true rfl) ?_
        repeat ((first | refine oP rfl ?_ | refine rP rfl (fun _ z => z) ?_ | (refine kO 1 rfl ?_; refine rG (fun _ z => z) ?_) | (refine kO 2 rfl ?_; refine rG (fun _ z => z) ?_) | (refine kO 3 rfl ?_; first | refine rLdb rfl rfl rfl rfl rfl rfl rfl ?_ | refine rG (fun _ z => z) ?_) | (refine kO 4 rfl ?_; refine rG (fun _ z => z) ?_) | (refine kO 7 rfl ?_; first | refine rG (fun _ z => ⟨_, s1, z⟩) ?_ | refine rG (fun _ z => ⟨_, s2, z⟩) ?_ | refine rG (fun _ z => ⟨_, s3, z⟩) ?_) | refine oN ?_ | refine aS ?_ | refine aR ?_ | refine aK ?_ | refine aT ?_ | refine aC rfl ?_ | refine bF ?_ | refine bPt (by omega) ?_ | refine dI (by kernel_rfl) ?_); (try conv => whnf))
        (done)
      · rw [if_neg h0]
        refine Sat_of_awp (fn := f42) cx_ok (by kernel_rfl) (by kernel_rfl) rfl (by kernel_rfl) (Nat.le_of_ble_eq_true rfl) ?_
        repeat ((first | refine oP rfl ?_ | refine rP rfl (fun _ z => z) ?_ | (refine kO 1 rfl ?_; refine rG (fun _ z => z) ?_) | (refine kO 2 rfl ?_; refine rG (fun _ z => z) ?_) | (refine kO 3 rfl ?_; first | refine rLdb rfl rfl rfl rfl rfl rfl rfl ?_ | refine rG (fun _ z => z) ?_) | (refine kO 4 rfl ?_; refine rG (fun _ z => z) ?_) | (refine kO 7 rfl ?_; first | refine rG (fun _ z => ⟨_, s1, z⟩) ?_ | refine rG (fun _ z => ⟨_, s2, z⟩) ?_ | refine rG (fun _ z => ⟨_, s3, z⟩) ?_) | refine oN ?_ | refine aS ?_ | refine aR ?_ | refine aK ?_ | refine aT ?_ | refine aC rfl ?_ | refine bF ?_ | refine bPf (by omega) ?_ | refine dI (by kernel_rfl) ?_); (try conv => whnf))
        (done)
    · rw [if_pos h1]
      unfold facO at s3
      refine Sat_of_awp (fn := f42) cx_ok (by kernel_rfl) (by kernel_rfl) rfl (by kernel_rfl) (Nat.le_of_ble_eq_true rfl) ?_
      repeat ((first | refine oP rfl ?_ | refine rP rfl (fun _ z => z) ?_ | (refine kO 1 rfl ?_; refine rG (fun _ z => z) ?_) | (refine kO 2 rfl ?_; refine rG (fun _ z => z) ?_) | (refine kO 3 rfl ?_; refine rG (fun _ z => z) ?_) | (refine kO 4 rfl ?_; refine rG (fun _ z => z) ?_) | (refine kO 7 rfl ?_; first | refine rG (fun _ z => ⟨_, s1, z⟩) ?_ | refine rG (fun _ z => ⟨_, s2, z⟩) ?_ | refine rG (fun _ z => ⟨_, s3, z⟩) ?_) | refine oN ?_ | refine aS ?_ | refine aR ?_ | refine aK ?_ | refine aT ?_ | refine aC rfl ?_ | refine bT ?_ | refine bF ?_ | refine dI (by kernel_rfl) ?_); (try conv => whnf))
      (done)
  · rw [if_pos h]
    generalize pairErr e q ch sa la sb lb = z at *
    refine Sat_of_awp (fn := f42) cx_ok (by kernel_rfl) (by kernel_rfl) rfl (by kernel_rfl) (Nat.le_of_ble_eq_true rfl) ?_
    repeat ((first | refine oP rfl ?_ | refine rP rfl (fun _ z => z) ?_ | (refine kO 1 rfl ?_; refine rG (fun _ z => z) ?_) | (refine kO 3 rfl ?_; refine rG (fun _ z => z) ?_) | (refine kO 7 rfl ?_; refine rG (fun _ z => ⟨_, s1, z⟩) ?_) | refine oN ?_ | refine aS ?_ | refine aR ?_ | refine aT ?_ | refine aC rfl ?_ | refine bPt (by omega) ?_); (try conv => whnf))
    (rfl)
theorem waveFactors_sat (e : Int) (q : Sp) (ch : List Sp) (sa : Int) (la : List Int) (sb : Int) (lb : List Int) (hq : SpI q) (hch : ∀ s ∈ ch, SpI s) (hla : la.length ≤ maxLen) (hlb : lb.length ≤ maxLen) :
    Sat cx.P cx.gl 8 [Ru e q ch, Rp sa la sb lb] (.one (Bo true)) := by
  have w1 := few8_sat sa la
  have w2 := few8_sat sb lb
  have w3 := fewFactors_sat e q ch
  by_cases h1 : la.length ≤ 70
  · by_cases h2 : lb.length ≤ 70
    · by_cases h3 : ch.length ≤ 6
      · have c1 := copyRules_sat e q ch (by omega)
        have c2 := copyRecord_sat sa la (by omega)
        have c3 := copyRecord_sat sb lb (by omega)
        have s1 := factorsOf_sat e q ch sa la sb lb hq hch (by omega) hla hlb
        have s2 := differenceOf_sat e q ch sa la sb lb hq hch (by omega) hla hlb
        have s3 := refDifferenceOf_sat e q ch sa la sb lb hq hch hla hlb
        have s4 := pairErr_sat e q ch sa la sb lb hq hch hla hlb
        have fD : ∃ x y, difR (pairErr e q ch sa la sb lb) e (SS e q la lb) = [I x, I y] := by unfold difR; (repeat' split) <;> exact ⟨_, _, rfl⟩
        obtain ⟨dx, dy, hD⟩ := fD
        rw [hD] at s2 s3
        clear hD
        by_cases h : pairErr e q ch sa la sb lb = 0
        · obtain ⟨he, hF, _, hn, hl, ha, hb⟩ := pair_facts h
          have s5 := refAll_sat sa (l := la) (by omega)
          have s6 := refFactors_sat (ix := rng la.length) ch sa sb hF he hl (by rw [rng_len]; omega) ha hb (fun w hw => rng_in _ w hw)
          have hf := factors_one h
          rw [h] at s1 s4
          generalize SS e q la lb = S at *
          generalize oneS e (PI la lb (rng la.length)) (some (sF q)) = O at *
          generalize rng la.length = r at *
          unfold facR at s1
          rw [if_neg (by omega)] at s1
          rcases hf with ⟨o, rfl, rfl, g1⟩ | ⟨rfl, g1⟩
          · rw [if_neg g1] at s1
            unfold facO at s6
            refine Sat_of_awp (fn := f8) cx_ok (by kernel_rfl) (by kernel_rfl) rfl (by kernel_rfl) (Nat.le_of_ble_eq_true rfl) ?_
            repeat ((first | refine oP rfl ?_ | refine rP rfl (fun _ z => z) ?_ | (refine kO 1 rfl ?_; refine rG (fun _ z => z) ?_) | (refine kO 2 rfl ?_; refine rG (fun _ z => z) ?_) | (refine kO 3 rfl ?_; refine rG (fun _ z => z) ?_) | (refine kO 4 rfl ?_; refine rG (fun _ z => z) ?_) | (refine kO 7 rfl ?_; first | refine rG (fun _ z => ⟨_, awake8_sat, z⟩) ?_ | refine rG (fun _ z => ⟨_, w1, z⟩) ?_ | refine rG (fun _ z => ⟨_, w2, z⟩) ?_ | refine rG (fun _ z => ⟨_, w3, z⟩) ?_ | refine rG (fun _ z => ⟨_, c1, z⟩) ?_ | refine rG (fun _ z => ⟨_, c2, z⟩) ?_ | refine rG (fun _ z => ⟨_, c3, z⟩) ?_ | refine rG (fun _ z => ⟨_, s1, z⟩) ?_ | refine rG (fun _ z => ⟨_, s2, z⟩) ?_ | refine rG (fun _ z => ⟨_, s3, z⟩) ?_ | refine rG (fun _ z => ⟨_, s4, z⟩) ?_ | refine rG (fun _ z => ⟨_, s5, z⟩) ?_ | refine rG (fun _ z => ⟨_, s6, z⟩) ?_) | refine oN ?_ | refine aS ?_ | refine aR ?_ | refine aK ?_ | refine aT ?_ | refine aC rfl ?_ | refine bF ?_ | refine bPf (by omega) ?_ | refine oY rfl rfl rfl ?_ | refine oUf rfl rfl rfl (by omega) ?_ | refine dI (by kernel_rfl) ?_); (try conv => whnf))
            exact res_bo (by simp)
          · rw [if_pos g1] at s1
            unfold facO at s6
            refine Sat_of_awp (fn := f8) cx_ok (by kernel_rfl) (by kernel_rfl) rfl (by kernel_rfl) (Nat.le_of_ble_eq_true rfl) ?_
            repeat ((first | refine oP rfl ?_ | refine rP rfl (fun _ z => z) ?_ | (refine kO 1 rfl ?_; refine rG (fun _ z => z) ?_) | (refine kO 2 rfl ?_; refine rG (fun _ z => z) ?_) | (refine kO 3 rfl ?_; refine rG (fun _ z => z) ?_) | (refine kO 4 rfl ?_; refine rG (fun _ z => z) ?_) | (refine kO 7 rfl ?_; first | refine rG (fun _ z => ⟨_, awake8_sat, z⟩) ?_ | refine rG (fun _ z => ⟨_, w1, z⟩) ?_ | refine rG (fun _ z => ⟨_, w2, z⟩) ?_ | refine rG (fun _ z => ⟨_, w3, z⟩) ?_ | refine rG (fun _ z => ⟨_, c1, z⟩) ?_ | refine rG (fun _ z => ⟨_, c2, z⟩) ?_ | refine rG (fun _ z => ⟨_, c3, z⟩) ?_ | refine rG (fun _ z => ⟨_, s1, z⟩) ?_ | refine rG (fun _ z => ⟨_, s2, z⟩) ?_ | refine rG (fun _ z => ⟨_, s3, z⟩) ?_ | refine rG (fun _ z => ⟨_, s4, z⟩) ?_ | refine rG (fun _ z => ⟨_, s5, z⟩) ?_ | refine rG (fun _ z => ⟨_, s6, z⟩) ?_) | refine oN ?_ | refine aS ?_ | refine aR ?_ | refine aK ?_ | refine aT ?_ | refine aC rfl ?_ | refine bT ?_ | refine bF ?_ | refine bPf (by omega) ?_ | refine oY rfl rfl rfl ?_ | refine oUf rfl rfl rfl (by omega) ?_ | refine dI (by kernel_rfl) ?_); (try conv => whnf))
            (rfl)
        · unfold facR at s1
          rw [if_pos h] at s1
          generalize pairErr e q ch sa la sb lb = z at *
          refine Sat_of_awp (fn := f8) cx_ok (by kernel_rfl) (by kernel_rfl) rfl (by kernel_rfl) (Nat.le_of_ble_eq_true rfl) ?_
          repeat ((first | refine oP rfl ?_ | refine rP rfl (fun _ z => z) ?_ | (refine kO 1 rfl ?_; refine rG (fun _ z => z) ?_) | (refine kO 2 rfl ?_; refine rG (fun _ z => z) ?_) | (refine kO 3 rfl ?_; refine rG (fun _ z => z) ?_) | (refine kO 4 rfl ?_; refine rG (fun _ z => z) ?_) | (refine kO 7 rfl ?_; first | refine rG (fun _ z => ⟨_, awake8_sat, z⟩) ?_ | refine rG (fun _ z => ⟨_, w1, z⟩) ?_ | refine rG (fun _ z => ⟨_, w2, z⟩) ?_ | refine rG (fun _ z => ⟨_, w3, z⟩) ?_ | refine rG (fun _ z => ⟨_, c1, z⟩) ?_ | refine rG (fun _ z => ⟨_, c2, z⟩) ?_ | refine rG (fun _ z => ⟨_, c3, z⟩) ?_ | refine rG (fun _ z => ⟨_, s1, z⟩) ?_ | refine rG (fun _ z => ⟨_, s2, z⟩) ?_ | refine rG (fun _ z => ⟨_, s3, z⟩) ?_ | refine rG (fun _ z => ⟨_, s4, z⟩) ?_) | refine oN ?_ | refine aS ?_ | refine aR ?_ | refine aK ?_ | refine aT ?_ | refine aC rfl ?_ | refine bF ?_ | refine bPt (by omega) ?_ | refine bPf (by omega) ?_ | refine oY rfl rfl rfl ?_ | refine oIt rfl rfl rfl (by omega) ?_ | refine oUf rfl rfl rfl (by omega) ?_ | refine dI (by kernel_rfl) ?_); (try conv => whnf))
          (rfl)
      · refine Sat_of_awp (fn := f8) cx_ok (by kernel_rfl) (by kernel_rfl) rfl (by kernel_rfl) (Nat.le_of_ble_eq_true rfl) ?_
        repeat ((first | refine oP rfl ?_ | refine rP rfl (fun _ z => z) ?_ | (refine kO 2 rfl ?_; refine rG (fun _ z => z) ?_) | (refine kO 3 rfl ?_; refine rG (fun _ z => z) ?_) | (refine kO 7 rfl ?_; first | refine rG (fun _ z => ⟨_, awake8_sat, z⟩) ?_ | refine rG (fun _ z => ⟨_, w1, z⟩) ?_ | refine rG (fun _ z => ⟨_, w2, z⟩) ?_ | refine rG (fun _ z => ⟨_, w3, z⟩) ?_) | refine oN ?_ | refine aS ?_ | refine aR ?_ | refine aK ?_ | refine aT ?_ | refine aC rfl ?_ | refine bF ?_ | refine bPt (by omega) ?_ | refine oY rfl rfl rfl ?_ | refine oUf rfl rfl rfl (by omega) ?_); (try conv => whnf))
        (done)
    · refine Sat_of_awp (fn := f8) cx_ok (by kernel_rfl) (by kernel_rfl) rfl (by kernel_rfl) (Nat.le_of_ble_eq_true rfl) ?_
      repeat ((first | refine oP rfl ?_ | refine rP rfl (fun _ z => z) ?_ | (refine kO 2 rfl ?_; refine rG (fun _ z => z) ?_) | (refine kO 3 rfl ?_; refine rG (fun _ z => z) ?_) | (refine kO 7 rfl ?_; first | refine rG (fun _ z => ⟨_, awake8_sat, z⟩) ?_ | refine rG (fun _ z => ⟨_, w1, z⟩) ?_ | refine rG (fun _ z => ⟨_, w2, z⟩) ?_) | refine oN ?_ | refine aS ?_ | refine aR ?_ | refine aK ?_ | refine aT ?_ | refine aC rfl ?_ | refine bT ?_ | refine bF ?_ | refine oY rfl rfl rfl ?_ | refine oZ rfl rfl rfl ?_ | refine oUt rfl rfl rfl (by omega) ?_ | refine oUf rfl rfl rfl (by omega) ?_); (try conv => whnf))
      (done)
  · refine Sat_of_awp (fn := f8) cx_ok (by kernel_rfl) (by kernel_rfl) rfl (by kernel_rfl) (Nat.le_of_ble_eq_true rfl) ?_
    repeat ((first | refine oP rfl ?_ | refine rP rfl (fun _ z => z) ?_ | (refine kO 2 rfl ?_; refine rG (fun _ z => z) ?_) | (refine kO 3 rfl ?_; refine rG (fun _ z => z) ?_) | (refine kO 7 rfl ?_; first | refine rG (fun _ z => ⟨_, awake8_sat, z⟩) ?_ | refine rG (fun _ z => ⟨_, w1, z⟩) ?_) | refine oN ?_ | refine aS ?_ | refine aR ?_ | refine aK ?_ | refine aT ?_ | refine aC rfl ?_ | refine bT ?_ | refine bF ?_ | refine oZ rfl rfl rfl ?_ | refine oUt rfl rfl rfl (by omega) ?_); (try conv => whnf))
    (done)
end Go.Proofs.Tryd
