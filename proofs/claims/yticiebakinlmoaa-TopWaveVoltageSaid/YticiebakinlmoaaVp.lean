/- Parts of the proof, joined. -/
import Derived.Test.YticiebakinlmoaaVa
import Derived.Test.YticiebakinlmoaaM
import Derived.Test.YticiebakinlmoaaVs
import Derived.Test.YticiebakinlmoaaVt
namespace Go.Proofs.Try
open Go.Fw Go.IntWalk Go.Plain
set_option maxRecDepth 100000
set_option maxHeartbeats 8000000
/-- A record with an error of the recorder. -/
abbrev Rr (l : List Int) (e : Int) : SV := (true, [.ints l, J e])
theorem getD_in {l : List Int} {lo hi : Int} (h : AllIn l lo hi) {i : Nat} (hi' : i < l.length) : lo ≤ l.getD i 0 ∧ l.getD i 0 ≤ hi := h _ (getD_mem hi')
theorem maxL_sat {l : List Int} (h0 : 0 < l.length) (hl : l.length ≤ maxLen) : Sat cx.P cx.gl 45 [L l] (.one (I (pkV l))) := by
  unfold maxLen at hl
  have p1 : pkT l 1 = 0 := by unfold pkT; split <;> rfl
  refine Sat_of_awp (fn := f45) cx_ok (by kernel_rfl) (by kernel_rfl) rfl (by kernel_rfl) (Nat.le_of_ble_eq_true rfl) ?_
  repeat ((first | refine oP rfl ?_ | refine rP rfl (fun _ z => z) ?_ | (refine kO 1 rfl ?_; refine rG (fun _ z => z) ?_) | (refine kO 3 rfl ?_; refine rLdr rfl rfl rfl rfl rfl ?_) | (refine kO 5 rfl ?_; refine rIdN rfl rfl rfl rfl rfl rfl rfl (by omega) ?_) | (refine kO 6 rfl ?_; refine rLen rfl rfl rfl rfl rfl rfl ?_) | refine oN ?_ | refine aS ?_ | refine aR ?_ | refine aK ?_ | refine aB ?_ | refine aC rfl ?_ | refine bPf (by omega) ?_ | refine aL ?_); (try conv => whnf))
  refine loop_ind (ι := Nat) (fun i => 1 ≤ i ∧ i ≤ l.length) (fun i => l.length - i) (fun i => ⟨[(0, vL l), (3, vI (l.getD (pkT l i) 0)), (4, vI i)], [], 0⟩) 1 (canon_auto (by rw [p1]; kernel_rfl)) ⟨Nat.le_refl _, h0⟩ ?_
  rintro i ⟨hi0, hi⟩
  have hs : (if l.getD i 0 > l.getD (pkT l i) 0 then l.getD i 0 else l.getD (pkT l i) 0) = l.getD (pkT l (i + 1)) 0 := by
    show _ = l.getD (if l.getD i 0 > l.getD (pkT l i) 0 then i else pkT l i) 0
    split <;> rfl
  repeat ((first | refine oP rfl ?_ | refine rP rfl (fun _ z => z) ?_ | (refine kO 1 rfl ?_; refine rG (fun _ z => z) ?_) | (refine kO 6 rfl ?_; refine rLen rfl rfl rfl rfl rfl rfl ?_) | refine oN ?_ | refine aS ?_ | refine aR ?_ | refine aC rfl ?_); (try conv => whnf))
  ((refine brp (fun h => ?_) (fun h => ?_)) <;> (try conv => whnf))
  · have hlt : i < l.length := by omega
    repeat ((first | refine oP rfl ?_ | refine rP rfl (fun _ z => z) ?_ | (refine kO 1 rfl ?_; refine rAdd rfl rfl rfl (by omega) ?_) | (refine kO 3 rfl ?_; refine rLdr rfl rfl rfl rfl rfl ?_) | (refine kO 5 rfl ?_; refine rIdN rfl rfl rfl rfl rfl rfl rfl (by omega) ?_) | (refine kO 6 rfl ?_; refine rG (fun _ z => z) ?_) | refine oN ?_ | refine aS ?_ | refine aR ?_ | refine aK ?_ | refine aB ?_); (try conv => whnf))
    exact ⟨i + 1, ⟨by omega, hlt⟩, by omega, canon_auto (by rw [← hs]; kernel_rfl)⟩
  · obtain rfl : i = l.length := by omega
    repeat ((first | refine oP rfl ?_ | refine rP rfl (fun _ z => z) ?_ | refine oN ?_ | refine aS ?_ | refine aR ?_ | refine aX ?_ | refine aT ?_); (try conv => whnf))
    (rfl)
theorem indexMax_sat {l : List Int} (h0 : 0 < l.length) (hl : l.length ≤ maxLen) : Sat cx.P cx.gl 46 [L l, I (pkV l)] (.one (I (pk l : Nat))) := by
  unfold maxLen at hl
  have hp : pk l < l.length := pkT_lt h0
  refine Sat_of_awp (fn := f46) cx_ok (by kernel_rfl) (by kernel_rfl) rfl (by kernel_rfl) (Nat.le_of_ble_eq_true rfl) ?_
  repeat ((first | refine oP rfl ?_ | refine rP rfl (fun _ z => z) ?_ | (refine kO 6 rfl ?_; refine rLen rfl rfl rfl rfl rfl rfl ?_) | refine oN ?_ | refine aS ?_ | refine aR ?_ | refine aB ?_ | refine aL ?_); (try conv => whnf))
  refine loop_ind (ι := Nat) (fun i => i ≤ pk l) (fun i => l.length - i) (fun i => ⟨[(0, vL l), (1, vI (pkV l)), (7, vI l.length), (8, vI i)], [], 0⟩) 0 (canon_auto (by kernel_rfl)) (Nat.zero_le _) ?_
  intro i hi
  by_cases he : i = pk l
  · subst he
    have : l.getD (pk l) 0 = pkV l := rfl
    repeat ((first | refine oP rfl ?_ | refine rP rfl (fun _ z => z) ?_ | (refine kO 1 rfl ?_; refine rG (fun _ z => z) ?_) | (refine kO 3 rfl ?_; refine rLdr rfl rfl rfl rfl rfl ?_) | (refine kO 5 rfl ?_; refine rIdN rfl rfl rfl rfl rfl rfl rfl (by omega) ?_) | refine oN ?_ | refine aS ?_ | refine aR ?_ | refine aK ?_ | refine aB ?_ | refine aT ?_ | refine aC rfl ?_ | refine bPt (by omega) ?_); (try conv => whnf))
    (done)
  · have hlt : i < pk l := by omega
    have : l.getD i 0 < pkV l := pkT_first hlt
    repeat ((first | refine oP rfl ?_ | refine rP rfl (fun _ z => z) ?_ | (refine kO 1 rfl ?_; first | refine rAdd rfl rfl rfl (by omega) ?_ | refine rG (fun _ z => z) ?_) | (refine kO 3 rfl ?_; refine rLdr rfl rfl rfl rfl rfl ?_) | (refine kO 5 rfl ?_; refine rIdN rfl rfl rfl rfl rfl rfl rfl (by omega) ?_) | refine oN ?_ | refine aS ?_ | refine aR ?_ | refine aK ?_ | refine aB ?_ | refine aC rfl ?_ | refine bPt (by omega) ?_ | refine bPf (by omega) ?_); (try conv => whnf))
    exact ⟨i + 1, hlt, by omega, canon_auto (by kernel_rfl)⟩
theorem pkV_in {l : List Int} (h0 : 0 < l.length) (h : AllIn l (-4096) 4096) : -4096 ≤ pkV l ∧ pkV l ≤ 4096 := getD_in h (pkT_lt h0)
theorem peak8_sat {l : List Int} {e : Int} (h0 : 0 < l.length) (hl : l.length ≤ maxLen) (h : AllIn l (-4096) 4096) (he : 0 ≤ e ∧ e ≤ 1000) : Sat cx.P cx.gl 24 [Rr l e] (.tup [I (pk l : Nat), F2 (pkV l - e) (pkV l + e)]) := by
  have hv := pkV_in h0 h
  have g1 := maxL_sat h0 hl
  have g2 := indexMax_sat h0 hl
  refine Sat_of_awp (fn := f24) cx_ok (by kernel_rfl) (by kernel_rfl) rfl (by kernel_rfl) (Nat.le_of_ble_eq_true rfl) ?_
  repeat ((first | refine oP rfl ?_ | refine rP rfl (fun _ z => z) ?_ | (refine kO 1 rfl ?_; first | refine rAdd rfl rfl rfl (by omega) ?_ | refine rSub rfl rfl rfl (by omega) ?_) | (refine kO 3 rfl ?_; refine rLdb rfl rfl rfl rfl rfl rfl rfl ?_) | (refine kO 4 rfl ?_; refine rG (fun _ z => z) ?_) | (refine kO 7 rfl ?_; first | refine rG (fun _ z => ⟨_, g1, z⟩) ?_ | refine rG (fun _ z => ⟨_, g2, z⟩) ?_) | refine oN ?_ | refine aS ?_ | refine aR ?_ | refine aT ?_ | refine dI (by kernel_rfl) ?_); (try conv => whnf))
  (rfl)
theorem indexFuncM_sat (l : List Int) (g : FuncId) (first : List (Bool × List SC)) (caps : List (List SC)) (p : Int → Bool) (hp : ∀ n ∈ l, Sat cx.P cx.gl g (first ++ [I n] ++ caps.map fun cs => (false, [.ref cs])) (.one (Bo (p n)))) (hl : l.length ≤ maxLen) :
    Sat cx.P cx.gl 68 [L l, (false, [.fn g first caps])] (.one (I (fF p l 0))) := by
  unfold maxLen at hl
  refine Sat_of_awp (fn := f68) cx_ok (by kernel_rfl) (by kernel_rfl) rfl (by kernel_rfl) (Nat.le_of_ble_eq_true rfl) ?_
  repeat ((first | refine oP rfl ?_ | refine rP rfl (fun _ z => z) ?_ | (refine kO 6 rfl ?_; refine rLen rfl rfl rfl rfl rfl rfl ?_) | refine oN ?_ | refine aS ?_ | refine aR ?_ | refine aB ?_ | refine aL ?_); (try conv => whnf))
  refine loop_ind (ι := Nat) (fun i => i ≤ l.length ∧ fF p l 0 = fF p l i) (fun i => l.length - i) (fun i => ⟨[(0, vL l), (1, some (.val (false, [.st (.fn g first caps)]))), (7, vI l.length), (8, vI i)], [], 0⟩) 0 (canon_auto (by kernel_rfl)) ⟨Nat.zero_le _, rfl⟩ ?_
  rintro i ⟨hi, hf⟩
  repeat ((first | refine oP rfl ?_ | (refine kO 1 rfl ?_; refine rG (fun _ z => z) ?_) | refine oN ?_ | refine aS ?_ | refine aR ?_ | refine aC rfl ?_); (try conv => whnf))
  ((refine brp (fun h => ?_) (fun h => ?_)) <;> (try conv => whnf)) <;> (repeat ((first | refine oP rfl ?_ | refine rP rfl (fun _ z => z) ?_ | (refine kO 3 rfl ?_; refine rLdr rfl rfl rfl rfl rfl ?_) | (refine kO 5 rfl ?_; refine rIdN rfl rfl rfl rfl rfl rfl rfl (by omega) ?_) | refine oN ?_ | refine aS ?_ | refine aR ?_ | refine aK ?_ | refine aX ?_ | refine aB ?_ | refine aT ?_); (try conv => whnf)))
  · have hlt : i < l.length := by omega
    have hc := hp _ (getD_mem (d := 0) hlt)
    rw [fF_step hlt] at hf
    repeat ((first | (refine kO 7 rfl ?_; refine rG (fun _ z => ⟨_, hc, z⟩) ?_) | refine oN ?_ | refine aC rfl ?_); (try conv => whnf))
    ((refine brp (fun h => ?_) (fun h => ?_)) <;> (try conv => whnf)) <;> (repeat ((first | refine oP rfl ?_ | refine rP rfl (fun _ z => z) ?_ | (refine kO 1 rfl ?_; refine rAdd rfl rfl rfl (by omega) ?_) | refine oN ?_ | refine aS ?_ | refine aR ?_ | refine aK ?_ | refine aT ?_); (try conv => whnf)))
    · rw [hf, if_pos h]; (done)
    · rw [if_neg h] at hf
      exact ⟨i + 1, ⟨hlt, hf⟩, by omega, canon_auto (by kernel_rfl)⟩
  · obtain rfl : i = l.length := by omega
    rw [hf, fF_end]; (done)
theorem fF_drop (p : Int → Bool) (l : List Int) (a : Nat) : fF p l a = if fF p (l.drop a) 0 ≥ 0 then (a : Int) + fF p (l.drop a) 0 else -1 := by
  unfold fF
  rw [List.drop_zero]
  by_cases h : (l.drop a).any p = true
  · rw [if_pos h, if_pos h, if_pos (by omega)]; omega
  · rw [if_neg h, if_neg h, if_neg (by omega)]
theorem from_sat (l : List Int) (e : Int) (a : Nat) (g : FuncId) (first : List (Bool × List SC)) (caps : List (List SC)) (p : Int → Bool) (ha : a ≤ l.length) (hp : ∀ n ∈ l, Sat cx.P cx.gl g (first ++ [I n] ++ caps.map fun cs => (false, [.ref cs])) (.one (Bo (p n)))) (hl : l.length ≤ maxLen) :
    Sat cx.P cx.gl 47 [Rr l e, I (a : Nat), (false, [.fn g first caps])] (.one (I (fF p l a))) := by
  have hld : (l.drop a).length ≤ maxLen := by rw [List.length_drop]; omega
  have c := indexFuncM_sat (l.drop a) g first caps p (fun n hn => hp n (List.mem_of_mem_drop hn)) hld
  have c' : Sat cx.P cx.gl 68 [L (l.drop (a : Int).toNat), (false, [.fn g first caps])] (.one (I (fF p (l.drop a) 0))) := c
  rw [fF_drop]
  have hb := fF_bound p (l.drop a) (Nat.zero_le _)
  rw [List.length_drop] at hb
  unfold maxLen at hl
  refine Sat_of_awp (fn := f47) cx_ok (by kernel_rfl) (by kernel_rfl) rfl (by kernel_rfl) (Nat.le_of_ble_eq_true rfl) ?_
  repeat ((first | refine oP rfl ?_ | refine rP rfl (fun _ z => z) ?_ | (refine kO 1 rfl ?_; refine rG (fun _ z => z) ?_) | (refine kO 3 rfl ?_; refine rLdb rfl rfl rfl rfl rfl rfl rfl ?_) | (refine kO 7 rfl ?_; refine rG (fun _ z => ⟨_, c', z⟩) ?_) | (refine kO 8 rfl ?_; refine rSlL rfl rfl rfl rfl rfl rfl rfl (by omega) ?_) | refine oN ?_ | refine aS ?_ | refine aR ?_ | refine aC rfl ?_); (try conv => whnf))
  ((refine brp (fun h => ?_) (fun h => ?_)) <;> (try conv => whnf))
  · repeat ((first | refine oP rfl ?_ | refine rP rfl (fun _ z => z) ?_ | (refine kO 1 rfl ?_; refine rAdd rfl rfl rfl (by omega) ?_) | refine oN ?_ | refine aS ?_ | refine aR ?_ | refine aT ?_); (try conv => whnf))
    rw [if_pos h]; (done)
  · repeat ((first | refine oP rfl ?_ | refine rP rfl (fun _ z => z) ?_ | refine oN ?_ | refine aS ?_ | refine aR ?_ | refine aK ?_ | refine aT ?_); (try conv => whnf))
    rw [if_neg h]; (done)
/-! ### Levels -/
def lvLo (e t x : Int) : Int → Bool := fun n => decide (10 * (n + e) ≥ t * x)
def lvHi (e t x : Int) : Int → Bool := fun n => decide (10 * (n - e) ≥ t * x)
def hfLo (e x : Int) : Int → Bool := fun n => decide (2 * (n - e) ≤ x)
def hfHi (e x : Int) : Int → Bool := fun n => decide (2 * (n + e) ≤ x)
abbrev smp (n : Int) : Prop := -10000 ≤ n ∧ n ≤ 10000
theorem tx_mid {t x : Int} (ht : 0 ≤ t ∧ t ≤ 10) (hx : smp x) : -100000 ≤ t * x ∧ t * x ≤ 100000 := mulS (A := 10) (B := 10000) (by omega) hx (by omega)
theorem level1_sat (n : Int) (l : List Int) (e t x y : Int) (hn : smp n) (he : 0 ≤ e ∧ e ≤ 1000) (ht : 0 ≤ t ∧ t ≤ 10) (hx : smp x) : Sat cx.P cx.gl 48 [I n, (false, [.ref [.ints l, J e]]), (false, [.ref [J t]]), (false, [.ref [J x, J y]])] (.one (Bo (lvLo e t x n))) := by
  have := tx_mid ht hx
  refine Sat_of_awp (fn := f48) cx_ok (by kernel_rfl) (by kernel_rfl) rfl (by kernel_rfl) (Nat.le_of_ble_eq_true rfl) ?_
  repeat ((first | refine oP rfl ?_ | refine rP rfl (fun _ z => z) ?_ | (refine kO 1 rfl ?_; first | refine rAdd rfl rfl rfl (by omega) ?_ | refine rMul rfl rfl rfl (by omega) ?_ | refine rG (fun _ z => z) ?_) | (refine kO 3 rfl ?_; refine rLdr rfl rfl rfl rfl rfl ?_) | refine oN ?_ | refine aS ?_ | refine aR ?_ | refine aT ?_); (try conv => whnf))
  (rfl)
theorem level2_sat (n : Int) (l : List Int) (e t x y : Int) (hn : smp n) (he : 0 ≤ e ∧ e ≤ 1000) (ht : 0 ≤ t ∧ t ≤ 10) (hy : smp y) : Sat cx.P cx.gl 49 [I n, (false, [.ref [.ints l, J e]]), (false, [.ref [J t]]), (false, [.ref [J x, J y]])] (.one (Bo (lvHi e t y n))) := by
  have := tx_mid ht hy
  refine Sat_of_awp (fn := f49) cx_ok (by kernel_rfl) (by kernel_rfl) rfl (by kernel_rfl) (Nat.le_of_ble_eq_true rfl) ?_
  repeat ((first | refine oP rfl ?_ | refine rP rfl (fun _ z => z) ?_ | (refine kO 1 rfl ?_; first | refine rSub rfl rfl rfl (by omega) ?_ | refine rMul rfl rfl rfl (by omega) ?_ | refine rG (fun _ z => z) ?_) | (refine kO 3 rfl ?_; refine rLdr rfl rfl rfl rfl rfl ?_) | refine oN ?_ | refine aS ?_ | refine aR ?_ | refine aT ?_); (try conv => whnf))
  (rfl)
theorem half1_sat (n : Int) (l : List Int) (e x y : Int) (hn : smp n) (he : 0 ≤ e ∧ e ≤ 1000) : Sat cx.P cx.gl 50 [I n, (false, [.ref [.ints l, J e]]), (false, [.ref [J x, J y]])] (.one (Bo (hfLo e y n))) := by
  refine Sat_of_awp (fn := f50) cx_ok (by kernel_rfl) (by kernel_rfl) rfl (by kernel_rfl) (Nat.le_of_ble_eq_true rfl) ?_
  repeat ((first | refine oP rfl ?_ | refine rP rfl (fun _ z => z) ?_ | (refine kO 1 rfl ?_; first | refine rSub rfl rfl rfl (by omega) ?_ | refine rMul rfl rfl rfl (by omega) ?_ | refine rG (fun _ z => z) ?_) | (refine kO 3 rfl ?_; refine rLdr rfl rfl rfl rfl rfl ?_) | refine oN ?_ | refine aS ?_ | refine aR ?_ | refine aT ?_); (try conv => whnf))
  (rfl)
theorem half2_sat (n : Int) (l : List Int) (e x y : Int) (hn : smp n) (he : 0 ≤ e ∧ e ≤ 1000) : Sat cx.P cx.gl 51 [I n, (false, [.ref [.ints l, J e]]), (false, [.ref [J x, J y]])] (.one (Bo (hfHi e x n))) := by
  refine Sat_of_awp (fn := f51) cx_ok (by kernel_rfl) (by kernel_rfl) rfl (by kernel_rfl) (Nat.le_of_ble_eq_true rfl) ?_
  repeat ((first | refine oP rfl ?_ | refine rP rfl (fun _ z => z) ?_ | (refine kO 1 rfl ?_; first | refine rAdd rfl rfl rfl (by omega) ?_ | refine rMul rfl rfl rfl (by omega) ?_ | refine rG (fun _ z => z) ?_) | (refine kO 3 rfl ?_; refine rLdr rfl rfl rfl rfl rfl ?_) | refine oN ?_ | refine aS ?_ | refine aR ?_ | refine aT ?_); (try conv => whnf))
  (rfl)
theorem level_sat {l : List Int} {e t x y : Int} (hl : l.length ≤ maxLen) (h : AllIn l (-4096) 4096) (he : 0 ≤ e ∧ e ≤ 1000) (ht : 0 ≤ t ∧ t ≤ 10) (hx : smp x) (hy : smp y) : Sat cx.P cx.gl 25 [Rr l e, I t, F2 x y] (.one (F2 (fF (lvLo e t x) l 0) (fF (lvHi e t y) l 0))) := by
  have c1 := from_sat l e 0 48 [] [[.ints l, J e], [J t], [J x, J y]] (lvLo e t x) (Nat.zero_le _) (fun n hn => level1_sat n l e t x y (by have := h n hn; omega) he ht hx) hl
  have c2 := from_sat l e 0 49 [] [[.ints l, J e], [J t], [J x, J y]] (lvHi e t y) (Nat.zero_le _) (fun n hn => level2_sat n l e t x y (by have := h n hn; omega) he ht hy) hl
  have c1' : Sat cx.P cx.gl 47 [Rr l e, I 0, (false, [.fn 48 [] [[.ints l, J e], [J t], [J x, J y]]])] (.one (I (fF (lvLo e t x) l 0))) := c1
  have c2' : Sat cx.P cx.gl 47 [Rr l e, I 0, (false, [.fn 49 [] [[.ints l, J e], [J t], [J x, J y]]])] (.one (I (fF (lvHi e t y) l 0))) := c2
  refine Sat_of_awp (fn := f25) cx_ok (by kernel_rfl) (by kernel_rfl) rfl (by kernel_rfl) (Nat.le_of_ble_eq_true rfl) ?_
  repeat ((first | refine oP rfl ?_ | refine rP rfl (fun _ z => z) ?_ | (refine kO 3 rfl ?_; refine rG (fun _ z => z) ?_) | (refine kO 4 rfl ?_; refine rG (fun _ z => z) ?_) | (refine kO 7 rfl ?_; first | refine rG (fun _ z => ⟨_, c1', z⟩) ?_ | refine rG (fun _ z => ⟨_, c2', z⟩) ?_) | refine oN ?_ | refine aSs ?_ | refine aR ?_ | refine aT ?_ | refine dI (by kernel_rfl) ?_); (try conv => whnf))
  (rfl)
theorem half_sat {l : List Int} {e x y : Int} {a : Nat} (ha : a < l.length) (hl : l.length ≤ maxLen) (h : AllIn l (-4096) 4096) (he : 0 ≤ e ∧ e ≤ 1000) : Sat cx.P cx.gl 26 [Rr l e, I (a : Nat), F2 x y] (.one (F2 (fF (hfLo e y) l (a + 1)) (fF (hfHi e x) l (a + 1)))) := by
  have c1 := from_sat l e (a + 1) 50 [] [[.ints l, J e], [J x, J y]] (hfLo e y) ha (fun n hn => half1_sat n l e x y (by have := h n hn; omega) he) hl
  have c2 := from_sat l e (a + 1) 51 [] [[.ints l, J e], [J x, J y]] (hfHi e x) ha (fun n hn => half2_sat n l e x y (by have := h n hn; omega) he) hl
  unfold maxLen at hl
  rw [Int.natCast_add, Int.natCast_one] at c1 c2
  refine Sat_of_awp (fn := f26) cx_ok (by kernel_rfl) (by kernel_rfl) rfl (by kernel_rfl) (Nat.le_of_ble_eq_true rfl) ?_
  repeat ((first | refine oP rfl ?_ | refine rP rfl (fun _ z => z) ?_ | (refine kO 1 rfl ?_; refine rAdd rfl rfl rfl (by omega) ?_) | (refine kO 3 rfl ?_; refine rG (fun _ z => z) ?_) | (refine kO 4 rfl ?_; refine rG (fun _ z => z) ?_) | (refine kO 7 rfl ?_; first | refine rG (fun _ z => ⟨_, c1, z⟩) ?_ | refine rG (fun _ z => ⟨_, c2, z⟩) ?_) | refine oN ?_ | refine aSs ?_ | refine aR ?_ | refine aT ?_ | refine dI (by kernel_rfl) ?_); (try conv => whnf))
  (rfl)
end Go.Proofs.Try

namespace Go.Proofs.Try
open Go.Fw Go.IntWalk Go.Plain
set_option maxRecDepth 100000
set_option maxHeartbeats 8000000
theorem recErr_zero {st : Int} {l : List Int} (h : recErr st l = 0) : (1 ≤ st ∧ st ≤ 1000000) ∧ 3 ≤ l.length ∧ l.length ≤ 64 ∧ AllIn l (-4096) 4096 := by
  unfold recErr at h
  repeat' split at h
  all_goals first | omega | exact ⟨by assumption, by assumption, by assumption, by assumption⟩
def bothErr (e : Int) (q : Sp) (ch : List Sp) (st : Int) (l : List Int) : Int := if rulesErr e q ch ≠ 0 then rulesErr e q ch else recErr st l
theorem bothErr_zero {e : Int} {q : Sp} {ch : List Sp} {st : Int} {l : List Int} (h : bothErr e q ch st l = 0) : rulesErr e q ch = 0 ∧ recErr st l = 0 := by
  unfold bothErr at h
  split at h <;> omega
theorem bothErr_sat (e : Int) (q : Sp) (ch : List Sp) (st : Int) (l : List Int) (hq : SpI q) (hch : ∀ s ∈ ch, SpI s) (hl : l.length ≤ maxLen) : Sat cx.P cx.gl 6 [Ru e q ch, Rc st l] (.one (I (bothErr e q ch st l))) := by
  have s1 := refRulesErr_sat e q ch hq hch
  have s2 := refRecordErr_sat st l hl
  unfold bothErr
  by_cases h : rulesErr e q ch = 0
  · rw [if_neg (by omega)]
    rw [h] at s1
    refine Sat_of_awp (fn := f6) cx_ok (by kernel_rfl) (by kernel_rfl) rfl (by kernel_rfl) (Nat.le_of_ble_eq_true rfl) ?_
    repeat ((first | refine oP rfl ?_ | refine rP rfl (fun _ z => z) ?_ | (refine kO 1 rfl ?_; refine rG (fun _ z => z) ?_) | (refine kO 3 rfl ?_; refine rG (fun _ z => z) ?_) | (refine kO 7 rfl ?_; first | refine rG (fun _ z => ⟨_, s1, z⟩) ?_ | refine rG (fun _ z => ⟨_, s2, z⟩) ?_) | refine oN ?_ | refine aS ?_ | refine aR ?_ | refine aK ?_ | refine aT ?_ | refine aC rfl ?_ | refine bF ?_); (try conv => whnf))
    (rfl)
  · rw [if_pos h]
    generalize rulesErr e q ch = z at *
    refine Sat_of_awp (fn := f6) cx_ok (by kernel_rfl) (by kernel_rfl) rfl (by kernel_rfl) (Nat.le_of_ble_eq_true rfl) ?_
    repeat ((first | refine oP rfl ?_ | refine rP rfl (fun _ z => z) ?_ | (refine kO 1 rfl ?_; refine rG (fun _ z => z) ?_) | (refine kO 3 rfl ?_; refine rG (fun _ z => z) ?_) | (refine kO 7 rfl ?_; refine rG (fun _ z => ⟨_, s1, z⟩) ?_) | refine oN ?_ | refine aS ?_ | refine aR ?_ | refine aT ?_ | refine aC rfl ?_ | refine bPt (by omega) ?_); (try conv => whnf))
    (rfl)
theorem open8_sat (e : Int) (q : Sp) (ch : List Sp) (st : Int) (l : List Int) (hq : SpI q) (hch : ∀ s ∈ ch, SpI s) (hc : ch.length ≤ 4294967296) (hl : l.length ≤ maxLen) : Sat cx.P cx.gl 23 [Ru e q ch, Rc st l] (.tup [Rr l e, I (bothErr e q ch st l)]) := by
  have s1 := checkRules_sat e q ch hq hch hc
  have s2 := checkRecord_sat st l hl
  have f := fs2 (rulesErr e q ch) (recErr st l)
  rw [show (if rulesErr e q ch ≠ 0 then rulesErr e q ch else recErr st l) = bothErr e q ch st l from rfl] at f
  rw [← f]
  refine Sat_of_awp (fn := f23) cx_ok (by kernel_rfl) (by kernel_rfl) rfl (by kernel_rfl) (Nat.le_of_ble_eq_true rfl) ?_
  repeat ((first | refine oP rfl ?_ | refine rP rfl (fun _ z => z) ?_ | (refine kO 3 rfl ?_; first | refine rLdb rfl rfl rfl rfl rfl rfl rfl ?_ | refine rG (fun _ z => z) ?_) | (refine kO 4 rfl ?_; refine rG (fun _ z => z) ?_) | (refine kO 7 rfl ?_; first | refine rG (fun _ z => ⟨_, s1, z⟩) ?_ | refine rG (fun _ z => ⟨_, s2, z⟩) ?_ | refine rG (fun _ z => ⟨_, wFirst_fs _ (Nat.le_of_ble_eq_true rfl), z⟩) ?_) | refine oN ?_ | refine aS ?_ | refine aR ?_ | refine aT ?_ | refine dI (by kernel_rfl) ?_); (try conv => whnf))
  (rfl)
abbrev bRu (e : Int) (q : Sp) (ch : List Sp) : Option Blk := some (.box 28 [.st (J e), .st (J q.1), .st (J q.2.1), .st (J q.2.2.1), .st (J q.2.2.2), .st (.view (ch.map sp))])
abbrev bRc (st : Int) (l : List Int) : Option Blk := some (.box 31 [.st (J st), .st (.ints l)])
abbrev bRg (a b : Int) : Option Blk := some (.box 36 [.st (J a), .st (J b)])
end Go.Proofs.Try

namespace Go.Proofs.Try
open Go.Fw Go.IntWalk Go.Plain
set_option maxRecDepth 100000
set_option maxHeartbeats 8000000
def t30l (l : List Int) (e : Int) : Int := fF (lvLo e 3 (pkV l - e)) l 0
def t30h (l : List Int) (e : Int) : Int := fF (lvHi e 3 (pkV l + e)) l 0
def t90l (l : List Int) (e : Int) : Int := fF (lvLo e 9 (pkV l - e)) l 0
def t90h (l : List Int) (e : Int) : Int := fF (lvHi e 9 (pkV l + e)) l 0
def hfl (l : List Int) (e : Int) : Int := fF (hfLo e (pkV l + e)) l (pk l + 1)
def hfh (l : List Int) (e : Int) : Int := fF (hfHi e (pkV l - e)) l (pk l + 1)
/-- The figures of a record. -/
abbrev FG (l : List Int) (e : Int) : SV := F9 (pk l : Nat) (pkV l - e) (pkV l + e) (t30l l e) (t30h l e) (t90l l e) (t90h l e) (hfl l e) (hfh l e)
def fgErr (l : List Int) (e : Int) : Int := if pkV l - e ≤ 0 then 21 else if t30h l e < 0 ∨ t90h l e < 0 ∨ hfh l e < 0 then 12 else 0
def figE (e : Int) (q : Sp) (ch : List Sp) (st : Int) (l : List Int) : Int := if bothErr e q ch st l ≠ 0 then bothErr e q ch st l else fgErr l e
theorem min3 (a b c : Int) : (if c < (if b < a then b else a) then c else if b < a then b else a) < 0 ↔ a < 0 ∨ b < 0 ∨ c < 0 := by
  (repeat' split) <;> omega
theorem figuresOf_sat (e : Int) (q : Sp) (ch : List Sp) (st : Int) (l : List Int) (hq : SpI q) (hch : ∀ s ∈ ch, SpI s) (hc : ch.length ≤ 4294967296) (hl : l.length ≤ maxLen) : Sat cx.P cx.gl 7 [Ru e q ch, Rc st l] (.tup (if figE e q ch st l = 0 then [FG l e, I 0] else [F9 0 0 0 0 0 0 0 0 0, I (figE e q ch st l)])) := by
  have s1 := open8_sat e q ch st l hq hch hc hl
  by_cases h : bothErr e q ch st l = 0
  · have hfe : figE e q ch st l = fgErr l e := by unfold figE; rw [if_neg (by omega)]
    rw [hfe]
    clear hfe
    rw [h] at s1
    obtain ⟨h1, h2⟩ := bothErr_zero h
    obtain ⟨he, _⟩ := rulesErr_zero h1
    obtain ⟨_, k1, k2, k3⟩ := recErr_zero h2
    have hv := pkV_in (by omega) k3
    have hp : pk l < l.length := pkT_lt (by omega)
    have s2 := peak8_sat (l := l) (e := e) (by omega) hl k3 (by omega)
    have s3 := level_sat (l := l) (e := e) (t := 3) (x := pkV l - e) (y := pkV l + e) hl k3 (by omega) (by omega) (by omega) (by omega)
    have s4 := level_sat (l := l) (e := e) (t := 9) (x := pkV l - e) (y := pkV l + e) hl k3 (by omega) (by omega) (by omega) (by omega)
    have s5 := half_sat (l := l) (e := e) (x := pkV l - e) (y := pkV l + e) hp hl k3 (by omega)
    change Sat cx.P cx.gl _ _ (.one (F2 (t30l l e) (t30h l e))) at s3
    change Sat cx.P cx.gl _ _ (.one (F2 (t90l l e) (t90h l e))) at s4
    change Sat cx.P cx.gl _ _ (.one (F2 (hfl l e) (hfh l e))) at s5
    unfold fgErr
    by_cases hz : pkV l - e ≤ 0
    · rw [if_pos hz, if_neg (by omega)]
      refine Sat_of_awp (fn := f7) cx_ok (by kernel_rfl) (by kernel_rfl) rfl (by kernel_rfl) (Nat.le_of_ble_eq_true rfl) ?_
      repeat ((first | refine oP rfl ?_ | refine rP rfl (fun _ z => z) ?_ | (refine kO 1 rfl ?_; refine rG (fun _ z => z) ?_) | (refine kO 3 rfl ?_; first | refine rLdb rfl rfl rfl rfl rfl rfl rfl ?_ | refine rG (fun _ z => z) ?_) | (refine kO 4 rfl ?_; refine rG (fun _ z => z) ?_) | (refine kO 7 rfl ?_; first | refine rG (fun _ z => ⟨_, s1, z⟩) ?_ | refine rG (fun _ z => ⟨_, s2, z⟩) ?_) | refine oN ?_ | refine aS ?_ | refine aR ?_ | refine aK ?_ | refine aT ?_ | refine aC rfl ?_ | refine bF ?_ | refine bPt (by omega) ?_); (try conv => whnf))
      (rfl)
    · rw [if_neg hz]
      have m := min3 (t30h l e) (t90h l e) (hfh l e)
      by_cases k : t30h l e < 0 ∨ t90h l e < 0 ∨ hfh l e < 0
      · rw [if_pos k, if_neg (by omega)]
        refine Sat_of_awp (fn := f7) cx_ok (by kernel_rfl) (by kernel_rfl) rfl (by kernel_rfl) (Nat.le_of_ble_eq_true rfl) ?_
        repeat ((first | refine oP rfl ?_ | refine rP rfl (fun _ z => z) ?_ | (refine kO 1 rfl ?_; refine rG (fun _ z => z) ?_) | (refine kO 3 rfl ?_; first | refine rLdb rfl rfl rfl rfl rfl rfl rfl ?_ | refine rG (fun _ z => z) ?_) | (refine kO 4 rfl ?_; refine rG (fun _ z => z) ?_) | (refine kO 7 rfl ?_; first | refine rG (fun _ z => ⟨_, s1, z⟩) ?_ | refine rG (fun _ z => ⟨_, s2, z⟩) ?_ | refine rG (fun _ z => ⟨_, s3, z⟩) ?_ | refine rG (fun _ z => ⟨_, s4, z⟩) ?_ | refine rG (fun _ z => ⟨_, s5, z⟩) ?_) | (refine kO 6 rfl ?_; refine rG (fun _ z => z) ?_) | refine oN ?_ | refine aS ?_ | refine aR ?_ | refine aK ?_ | refine aC rfl ?_ | refine bF ?_ | refine bPf (by omega) ?_ | refine dI (by kernel_rfl) ?_); (try conv => whnf))
        ((refine brp (fun h => ?_) (fun h => ?_)) <;> (try conv => whnf))
        · repeat ((first | refine oP rfl ?_ | refine rP rfl (fun _ z => z) ?_ | (refine kO 4 rfl ?_; refine rG (fun _ z => z) ?_) | refine oN ?_ | refine aS ?_ | refine aR ?_ | refine aT ?_); (try conv => whnf))
          (rfl)
        · exact absurd (m.2 k) h
      · rw [if_neg k, if_pos rfl]
        refine Sat_of_awp (fn := f7) cx_ok (by kernel_rfl) (by kernel_rfl) rfl (by kernel_rfl) (Nat.le_of_ble_eq_true rfl) ?_
        repeat ((first | refine oP rfl ?_ | refine rP rfl (fun _ z => z) ?_ | (refine kO 1 rfl ?_; refine rG (fun _ z => z) ?_) | (refine kO 3 rfl ?_; first | refine rLdb rfl rfl rfl rfl rfl rfl rfl ?_ | refine rG (fun _ z => z) ?_) | (refine kO 4 rfl ?_; refine rG (fun _ z => z) ?_) | (refine kO 7 rfl ?_; first | refine rG (fun _ z => ⟨_, s1, z⟩) ?_ | refine rG (fun _ z => ⟨_, s2, z⟩) ?_ | refine rG (fun _ z => ⟨_, s3, z⟩) ?_ | refine rG (fun _ z => ⟨_, s4, z⟩) ?_ | refine rG (fun _ z => ⟨_, s5, z⟩) ?_) | (refine kO 6 rfl ?_; refine rG (fun _ z => z) ?_) | refine oN ?_ | refine aS ?_ | refine aR ?_ | refine aK ?_ | refine aC rfl ?_ | refine bF ?_ | refine bPf (by omega) ?_ | refine dI (by kernel_rfl) ?_); (try conv => whnf))
        ((refine brp (fun h => ?_) (fun h => ?_)) <;> (try conv => whnf))
        · exact absurd (m.1 h) k
        · repeat ((first | refine oP rfl ?_ | refine rP rfl (fun _ z => z) ?_ | (refine kO 3 rfl ?_; refine rG (fun _ z => z) ?_) | (refine kO 4 rfl ?_; refine rG (fun _ z => z) ?_) | refine oN ?_ | refine aS ?_ | refine aR ?_ | refine aK ?_ | refine aT ?_); (try conv => whnf))
          (rfl)
  · have hfe : figE e q ch st l = bothErr e q ch st l := by unfold figE; rw [if_pos h]
    rw [hfe, if_neg h]
    generalize bothErr e q ch st l = z at *
    refine Sat_of_awp (fn := f7) cx_ok (by kernel_rfl) (by kernel_rfl) rfl (by kernel_rfl) (Nat.le_of_ble_eq_true rfl) ?_
    repeat ((first | refine oP rfl ?_ | refine rP rfl (fun _ z => z) ?_ | (refine kO 1 rfl ?_; refine rG (fun _ z => z) ?_) | (refine kO 3 rfl ?_; refine rG (fun _ z => z) ?_) | (refine kO 4 rfl ?_; refine rG (fun _ z => z) ?_) | (refine kO 7 rfl ?_; refine rG (fun _ z => ⟨_, s1, z⟩) ?_) | refine oN ?_ | refine aS ?_ | refine aR ?_ | refine aT ?_ | refine aC rfl ?_ | refine bPt (by omega) ?_); (try conv => whnf))
    (rfl)
end Go.Proofs.Try
