/- Plain: the product of two words by halves. -/
import Derived.IntWalk
namespace Go.Fw
open Go.IntWalk

theorem u64_mask (x : Int) (h : 0 ≤ x ∧ x < 2 ^ 64) : IntKind.u64.wrap ((BitVec.ofInt IntKind.u64.bits x &&& BitVec.ofInt IntKind.u64.bits 4294967295).toNat : Nat) = x % 4294967296 := by
  obtain ⟨n, rfl⟩ := Int.eq_ofNat_of_zero_le h.1
  have hn : n < 2 ^ 64 := by omega
  have e : (BitVec.ofInt IntKind.u64.bits (n : Int) &&& BitVec.ofInt IntKind.u64.bits 4294967295).toNat = n % 4294967296 := by
    show (BitVec.ofInt 64 (n : Int) &&& BitVec.ofInt 64 4294967295).toNat = _
    rw [BitVec.toNat_and]
    have e1 : (BitVec.ofInt 64 (n : Int)).toNat = n := by simp; omega
    have e2 : (BitVec.ofInt 64 4294967295).toNat = 2 ^ 32 - 1 := by decide
    rw [e1, e2, Nat.and_two_pow_sub_one_eq_mod]
  rw [e, u64_in _ (by omega)]; omega

theorem u64_half (x : Int) : x.fdiv (2 ^ min (Int.toNat 32) IntKind.u64.bits) = x / 4294967296 := by
  show x.fdiv (2 ^ 32) = _
  rw [Int.fdiv_eq_ediv_of_nonneg _ (by decide)]; rfl

theorem u64_wrap (x : Int) : IntKind.u64.wrap x = x % 18446744073709551616 := by
  simp [IntKind.wrap, IntKind.bits, IntKind.signed]

theorem half_prod {x y : Int} (hx : 0 ≤ x ∧ x < 4294967296) (hy : 0 ≤ y ∧ y < 4294967296) : 0 ≤ x * y ∧ x * y ≤ 18446744065119617025 :=
  ⟨Int.mul_nonneg hx.1 hy.1, by have := Int.mul_le_mul (show x ≤ 4294967295 by omega) (show y ≤ 4294967295 by omega) hy.1 (by omega); omega⟩

theorem mul_halves (a b : Int) :
    a * b = (a / 4294967296) * (b / 4294967296) * 18446744073709551616 + ((a / 4294967296) * (b % 4294967296) + (a % 4294967296) * (b / 4294967296)) * 4294967296 + (a % 4294967296) * (b % 4294967296) := by
  have h1 : a = 4294967296 * (a / 4294967296) + a % 4294967296 := (Int.mul_ediv_add_emod a 4294967296).symm
  have h2 : b = 4294967296 * (b / 4294967296) + b % 4294967296 := (Int.mul_ediv_add_emod b 4294967296).symm
  generalize a / 4294967296 = p at *
  generalize a % 4294967296 = q at *
  generalize b / 4294967296 = r at *
  generalize b % 4294967296 = s at *
  subst h1; subst h2
  grind

end Go.Fw

/- Plain facts on lists of ints. -/
namespace Go.Plain
theorem take_snoc {α : Type} {l : List α} {i : Nat} {d : α} (h : i < l.length) : l.take (i + 1) = l.take i ++ [l.getD i d] := by
  rw [List.take_succ_eq_append_getElem h]; simp [List.getD_eq_getElem?_getD, h]
theorem getD_mem {α : Type} {l : List α} {i : Nat} {d : α} (h : i < l.length) : l.getD i d ∈ l := by
  simp [List.getD_eq_getElem?_getD, h]
theorem sum_snoc (l : List Int) (x : Int) : (l ++ [x]).sum = l.sum + x := by simp
theorem sum_take_succ {l : List Int} {i : Nat} (h : i < l.length) : (l.take (i + 1)).sum = (l.take i).sum + l.getD i 0 := by
  rw [take_snoc (d := 0) h, sum_snoc]
theorem sum_bound {B : Int} (hB : 0 ≤ B) : ∀ {l : List Int}, (∀ n ∈ l, -B ≤ n ∧ n ≤ B) → -(B * l.length) ≤ l.sum ∧ l.sum ≤ B * l.length
  | [], _ => by simp
  | x :: l, h => by
    have h1 := h x List.mem_cons_self
    have h2 := sum_bound hB (l := l) fun n hn => h n (List.mem_cons_of_mem _ hn)
    have e : B * ((x :: l).length : Int) = B * l.length + B := by rw [List.length_cons]; push_cast; rw [Int.mul_add]; omega
    rw [e, List.sum_cons]; omega
theorem sum_take_bound {B : Int} (hB : 0 ≤ B) {l : List Int} (h : ∀ n ∈ l, -B ≤ n ∧ n ≤ B) (i : Nat) : -(B * l.length) ≤ (l.take i).sum ∧ (l.take i).sum ≤ B * l.length := by
  have h1 := sum_bound hB (l := l.take i) fun n hn => h n (List.mem_of_mem_take hn)
  have h2 : B * ((l.take i).length : Int) ≤ B * l.length := Int.mul_le_mul_of_nonneg_left (by simp; omega) hB
  omega
theorem find_drop {α : Type} {l : List α} {i : Nat} {d : α} (h : i < l.length) : l.drop i = l.getD i d :: l.drop (i + 1) := by
  rw [List.drop_eq_getElem_cons h]; simp [List.getD_eq_getElem?_getD, h]
end Go.Plain
namespace Go.Plain
theorem rangeMap_getD {α : Type} {n i : Nat} {f : Nat → α} {d : α} (h : i < n) : ((List.range n).map f).getD i d = f i := by
  simp [List.getD_eq_getElem?_getD, h]
theorem rangeMap_succ {α : Type} {n : Nat} {f : Nat → α} : (List.range (n + 1)).map f = (List.range n).map f ++ [f n] := by
  simp [List.range_succ]
/-- Sums of the first numbers. -/
def psum (l : List Int) (k : Nat) : Int := (l.take k).sum
theorem psum_zero (l : List Int) : psum l 0 = 0 := rfl
theorem psum_succ {l : List Int} {k : Nat} (h : k < l.length) : psum l (k + 1) = psum l k + l.getD k 0 := sum_take_succ h
theorem psum_bound {B : Int} (hB : 0 ≤ B) {l : List Int} (h : ∀ n ∈ l, -B ≤ n ∧ n ≤ B) (k : Nat) : -(B * l.length) ≤ psum l k ∧ psum l k ≤ B * l.length := sum_take_bound hB h k
/-- The residual at a boundary. -/
def rs (a b : List Int) (k : Nat) : Int := psum a k + psum b k
def residL (a b : List Int) (n : Nat) : List Int := (List.range (n + 1)).map (rs a b)
theorem residL_len (a b : List Int) (n : Nat) : (residL a b n).length = n + 1 := by simp [residL]
theorem residL_getD {a b : List Int} {n k : Nat} (h : k ≤ n) : (residL a b n).getD k 0 = rs a b k := rangeMap_getD (by omega)
theorem residL_succ (a b : List Int) (n : Nat) : residL a b (n + 1) = residL a b n ++ [rs a b (n + 1)] := rangeMap_succ
/-- All numbers are from lo to hi. -/
def AllIn (l : List Int) (lo hi : Int) : Prop := ∀ n ∈ l, lo ≤ n ∧ n ≤ hi
instance (l : List Int) (lo hi : Int) : Decidable (AllIn l lo hi) := inferInstanceAs (Decidable (∀ n ∈ l, lo ≤ n ∧ n ≤ hi))
/-- The error of a window. -/
def windowErr (a b : List Int) : Int :=
  if 0 < a.length ∧ a.length = b.length then if a.length ≤ 15 then if AllIn a (-100) 100 then if AllIn b (-100) 100 then if a.sum + b.sum = 0 then 0 else 13 else 2 else 2 else 8 else 10
structure VW (a b : List Int) : Prop where
  len : b.length = a.length
  pos : 0 < a.length
  le : a.length ≤ 15
  ra : ∀ n ∈ a, -100 ≤ n ∧ n ≤ 100
  rb : ∀ n ∈ b, -100 ≤ n ∧ n ≤ 100
  sum : a.sum + b.sum = 0
theorem windowErr_zero {a b : List Int} : windowErr a b = 0 ↔ VW a b := by
  unfold windowErr
  constructor
  · intro h
    (repeat' split at h) <;> first | omega | skip
    rename_i h1 h2 h3 h4 h5
    exact ⟨by omega, by omega, by omega, h3, h4, by omega⟩
  · intro h
    have := h.len; have := h.pos; have := h.le
    rw [if_pos (by omega), if_pos (by omega), if_pos (show AllIn a (-100) 100 from h.ra), if_pos (show AllIn b (-100) 100 from h.rb), if_pos h.sum]
theorem VW.rs_bound {a b : List Int} (h : VW a b) (k : Nat) : -3000 ≤ rs a b k ∧ rs a b k ≤ 3000 := by
  have h1 := psum_bound (B := 100) (by omega) h.ra k
  have h2 := psum_bound (B := 100) (by omega) h.rb k
  have := h.len; have := h.le
  unfold rs; omega
theorem VW.a_bound {a b : List Int} (h : VW a b) (k : Nat) : -100 ≤ a.getD k 0 ∧ a.getD k 0 ≤ 100 := by
  by_cases hk : k < a.length
  · exact h.ra _ (getD_mem hk)
  · simp [List.getD_eq_getElem?_getD, List.getElem?_eq_none (by omega : a.length ≤ k)]
theorem VW.b_bound {a b : List Int} (h : VW a b) (k : Nat) : -100 ≤ b.getD k 0 ∧ b.getD k 0 ≤ 100 := by
  by_cases hk : k < b.length
  · exact h.rb _ (getD_mem hk)
  · simp [List.getD_eq_getElem?_getD, List.getElem?_eq_none (by omega : b.length ≤ k)]
theorem rs_succ {a b : List Int} {k : Nat} (h : k < a.length) (hl : b.length = a.length) : rs a b (k + 1) = rs a b k + a.getD k 0 + b.getD k 0 := by
  unfold rs; rw [psum_succ h, psum_succ (by omega)]; omega
theorem psum_all (l : List Int) : psum l l.length = l.sum := by simp [psum]
instance (a b : List Int) : Decidable (VW a b) := decidable_of_iff _ windowErr_zero
end Go.Plain

namespace Go.Plain
/-- Axial and radial forces, thrusts. -/
def axF (t a b : List Int) (k : Nat) : Int := t.getD k 0 * (rs a b k + rs a b (k + 1))
def axL (t a b : List Int) (n : Nat) : List Int := (List.range n).map (axF t a b)
theorem axL_len (t a b : List Int) (n : Nat) : (axL t a b n).length = n := by simp [axL]
theorem axL_succ (t a b : List Int) (n : Nat) : axL t a b (n + 1) = axL t a b n ++ [axF t a b n] := rangeMap_succ
theorem axL_getD {t a b : List Int} {n k : Nat} (h : k < n) : (axL t a b n).getD k 0 = axF t a b k := rangeMap_getD h
theorem mul_bound {x y A B : Int} (hx : -A ≤ x ∧ x ≤ A) (hy : -B ≤ y ∧ y ≤ B) (hA : 0 ≤ A) : -(A * B) ≤ x * y ∧ x * y ≤ A * B := by
  have hB : 0 ≤ B := by omega
  have h1 : x.natAbs ≤ A.natAbs := by omega
  have h2 : y.natAbs ≤ B.natAbs := by omega
  have h3 : x.natAbs * y.natAbs ≤ A.natAbs * B.natAbs := Nat.mul_le_mul h1 h2
  rw [← Int.natAbs_mul, ← Int.natAbs_mul] at h3
  have : 0 ≤ A * B := Int.mul_nonneg hA hB
  omega
theorem VW.ax_bound {t a b : List Int} (h : VW a b) (ht : ∀ n ∈ t, -100 ≤ n ∧ n ≤ 100) (k : Nat) : -600000 ≤ axF t a b k ∧ axF t a b k ≤ 600000 := by
  have h1 : -100 ≤ t.getD k 0 ∧ t.getD k 0 ≤ 100 := by
    by_cases hk : k < t.length
    · exact ht _ (getD_mem hk)
    · simp [List.getD_eq_getElem?_getD, List.getElem?_eq_none (by omega : t.length ≤ k)]
  have h2 := h.rs_bound k
  have h3 := h.rs_bound (k + 1)
  have := mul_bound (A := 100) (B := 6000) h1 (show -6000 ≤ rs a b k + rs a b (k + 1) ∧ rs a b k + rs a b (k + 1) ≤ 6000 by omega) (by omega)
  unfold axF; omega
theorem axL_mem {t a b : List Int} (h : VW a b) (ht : ∀ n ∈ t, -100 ≤ n ∧ n ≤ 100) (n : Nat) : ∀ x ∈ axL t a b n, -600000 ≤ x ∧ x ≤ 600000 := by
  intro x hx
  obtain ⟨k, _, rfl⟩ := List.mem_map.1 hx
  exact h.ax_bound ht k
def sumsL (l : List Int) (n : Nat) : List Int := (List.range (n + 1)).map (psum l)
theorem sumsL_len (l : List Int) (n : Nat) : (sumsL l n).length = n + 1 := by simp [sumsL]
theorem sumsL_succ (l : List Int) (n : Nat) : sumsL l (n + 1) = sumsL l n ++ [psum l (n + 1)] := rangeMap_succ
theorem sumsL_getD {l : List Int} {n k : Nat} (h : k ≤ n) : (sumsL l n).getD k 0 = psum l k := rangeMap_getD (by omega)
def rdI (a b : List Int) (k : Nat) : Int := a.getD k 0 * (a.getD k 0 - b.getD k 0)
def rdO (a b : List Int) (k : Nat) : Int := -b.getD k 0 * (a.getD k 0 - b.getD k 0)
def rdIL (a b : List Int) (n : Nat) : List Int := (List.range n).map (rdI a b)
def rdOL (a b : List Int) (n : Nat) : List Int := (List.range n).map (rdO a b)
theorem rdIL_succ (a b : List Int) (n : Nat) : rdIL a b (n + 1) = rdIL a b n ++ [rdI a b n] := rangeMap_succ
theorem rdOL_succ (a b : List Int) (n : Nat) : rdOL a b (n + 1) = rdOL a b n ++ [rdO a b n] := rangeMap_succ
theorem rdIL_len (a b : List Int) (n : Nat) : (rdIL a b n).length = n := by simp [rdIL]
theorem rdOL_len (a b : List Int) (n : Nat) : (rdOL a b n).length = n := by simp [rdOL]
theorem rdIL_getD {a b : List Int} {n k : Nat} (h : k < n) : (rdIL a b n).getD k 0 = rdI a b k := rangeMap_getD h
theorem rdOL_getD {a b : List Int} {n k : Nat} (h : k < n) : (rdOL a b n).getD k 0 = rdO a b k := rangeMap_getD h
theorem VW.rd_bound {a b : List Int} (h : VW a b) (k : Nat) : (-20000 ≤ rdI a b k ∧ rdI a b k ≤ 20000) ∧ (-20000 ≤ rdO a b k ∧ rdO a b k ≤ 20000) := by
  have h1 := h.a_bound k
  have h2 := h.b_bound k
  have h3 := mul_bound (A := 100) (B := 200) h1 (show -200 ≤ a.getD k 0 - b.getD k 0 ∧ a.getD k 0 - b.getD k 0 ≤ 200 by omega) (by omega)
  have h4 := mul_bound (A := 100) (B := 200) (show -100 ≤ -b.getD k 0 ∧ -b.getD k 0 ≤ 100 by omega) (show -200 ≤ a.getD k 0 - b.getD k 0 ∧ a.getD k 0 - b.getD k 0 ≤ 200 by omega) (by omega)
  unfold rdI rdO; omega
end Go.Plain

namespace Go.Plain
def mn (a b : Int) : Int := if b < a then b else a
def mx (a b : Int) : Int := if b > a then b else a
def mn4 (p q r s : Int) : Int := mn (mn (mn p q) r) s
def mx4 (p q r s : Int) : Int := mx (mx (mx p q) r) s
theorem mn4_bound {p q r s B : Int} (hp : -B ≤ p ∧ p ≤ B) (hq : -B ≤ q ∧ q ≤ B) (hr : -B ≤ r ∧ r ≤ B) (hs : -B ≤ s ∧ s ≤ B) : -B ≤ mn4 p q r s ∧ mn4 p q r s ≤ B := by
  unfold mn4 mn; (repeat' split) <;> omega
theorem mx4_bound {p q r s B : Int} (hp : -B ≤ p ∧ p ≤ B) (hq : -B ≤ q ∧ q ≤ B) (hr : -B ≤ r ∧ r ≤ B) (hs : -B ≤ s ∧ s ≤ B) : -B ≤ mx4 p q r s ∧ mx4 p q r s ≤ B := by
  unfold mx4 mx; (repeat' split) <;> omega
/-- The ends of the products of two ranges. -/
def prLo (a b c d : Int) : Int := mn4 (a * c) (a * d) (b * c) (b * d)
def prHi (a b c d : Int) : Int := mx4 (a * c) (a * d) (b * c) (b * d)
def sumN (f : Nat → Int) : Nat → Int
  | 0 => 0
  | n + 1 => sumN f n + f n
theorem sumN_bound {f : Nat → Int} {B : Int} (hB : 0 ≤ B) (h : ∀ k, -B ≤ f k ∧ f k ≤ B) : ∀ n : Nat, -(B * n) ≤ sumN f n ∧ sumN f n ≤ B * n
  | 0 => by simp [sumN]
  | n + 1 => by
    have h1 := sumN_bound hB h n
    have h2 := h n
    have e : B * ((n + 1 : Nat) : Int) = B * n + B := by push_cast; rw [Int.mul_add]; omega
    rw [e]; unfold sumN; omega
/-- The ends of an axial force for a tolerance. -/
def bLo (t a b : List Int) (e : Int) (k : Nat) : Int := prLo (t.getD k 0 - e) (t.getD k 0 + e) (rs a b k + rs a b (k + 1) - 2 * e * (2 * k + 1)) (rs a b k + rs a b (k + 1) + 2 * e * (2 * k + 1))
def bHi (t a b : List Int) (e : Int) (k : Nat) : Int := prHi (t.getD k 0 - e) (t.getD k 0 + e) (rs a b k + rs a b (k + 1) - 2 * e * (2 * k + 1)) (rs a b k + rs a b (k + 1) + 2 * e * (2 * k + 1))
def ab (n : Int) : Int := n.natAbs
def bOut (t a b : List Int) (e : Int) : Nat → Int
  | 0 => 0
  | k + 1 => mx (mx (bOut t a b e k) (ab (sumN (bLo t a b e) (k + 1)))) (ab (sumN (bHi t a b e) (k + 1)))
theorem VW.t_bound {t a b : List Int} (_ : VW a b) (ht : ∀ n ∈ t, -100 ≤ n ∧ n ≤ 100) (k : Nat) : -100 ≤ t.getD k 0 ∧ t.getD k 0 ≤ 100 := by
  by_cases hk : k < t.length
  · exact ht _ (getD_mem hk)
  · simp [List.getD_eq_getElem?_getD, List.getElem?_eq_none (by omega : t.length ≤ k)]
theorem tol_bound {e : Int} {k : Nat} (he : 0 ≤ e ∧ e ≤ 20) (hk : k ≤ 16) : 0 ≤ 2 * e * (2 * (k : Int) + 1) ∧ 2 * e * (2 * (k : Int) + 1) ≤ 1320 := by
  have h1 : 0 ≤ 2 * e * (2 * (k : Int) + 1) := Int.mul_nonneg (by omega) (by omega)
  have h2 : 2 * e * (2 * (k : Int) + 1) ≤ 40 * 33 := Int.mul_le_mul (by omega) (by omega) (by omega) (by omega)
  omega
/-- What the products of the ends of both ranges are at most. -/
theorem end_bound {x e m q : Int} (hx : -100 ≤ x ∧ x ≤ 100) (he : 0 ≤ e ∧ e ≤ 20) (hm : -6000 ≤ m ∧ m ≤ 6000) (hq : 0 ≤ q ∧ q ≤ 1320) :
    (-878400 ≤ (x - e) * (m - q) ∧ (x - e) * (m - q) ≤ 878400) ∧ (-878400 ≤ (x - e) * (m + q) ∧ (x - e) * (m + q) ≤ 878400) ∧ (-878400 ≤ (x + e) * (m - q) ∧ (x + e) * (m - q) ≤ 878400) ∧ (-878400 ≤ (x + e) * (m + q) ∧ (x + e) * (m + q) ≤ 878400) := by
  refine ⟨?_, ?_, ?_, ?_⟩ <;> exact mul_bound (A := 120) (B := 7320) (by omega) (by omega) (by omega)
/-- At level k with a tolerance: all that is computed is small. -/
theorem VW.bl_bound {t a b : List Int} {e : Int} (h : VW a b) (ht : ∀ n ∈ t, -100 ≤ n ∧ n ≤ 100) (he : 0 ≤ e ∧ e ≤ 20) {k : Nat} (hk : k ≤ 16) : (-878400 ≤ bLo t a b e k ∧ bLo t a b e k ≤ 878400) ∧ (-878400 ≤ bHi t a b e k ∧ bHi t a b e k ≤ 878400) := by
  have h1 := h.t_bound ht k
  have h2 := h.rs_bound k
  have h3 := h.rs_bound (k + 1)
  have h4 := tol_bound he hk
  obtain ⟨p, q, r, s⟩ := end_bound h1 he (show -6000 ≤ rs a b k + rs a b (k + 1) ∧ rs a b k + rs a b (k + 1) ≤ 6000 by omega) h4
  exact ⟨mn4_bound p q r s, mx4_bound p q r s⟩
theorem sumN_bound' {f : Nat → Int} {B : Int} {m : Nat} (hB : 0 ≤ B) (h : ∀ k, k ≤ m → -B ≤ f k ∧ f k ≤ B) : ∀ n : Nat, n ≤ m + 1 → -(B * n) ≤ sumN f n ∧ sumN f n ≤ B * n
  | 0, _ => by simp [sumN]
  | n + 1, hn => by
    have h1 := sumN_bound' hB h n (by omega)
    have h2 := h n (by omega)
    have e : B * ((n + 1 : Nat) : Int) = B * n + B := by push_cast; rw [Int.mul_add]; omega
    rw [e]; unfold sumN; omega
theorem VW.bs_bound {t a b : List Int} {e : Int} (h : VW a b) (ht : ∀ n ∈ t, -100 ≤ n ∧ n ≤ 100) (he : 0 ≤ e ∧ e ≤ 20) {k : Nat} (hk : k ≤ 16) : (-20000000 ≤ sumN (bLo t a b e) k ∧ sumN (bLo t a b e) k ≤ 20000000) ∧ (-20000000 ≤ sumN (bHi t a b e) k ∧ sumN (bHi t a b e) k ≤ 20000000) := by
  have h1 := sumN_bound' (B := 878400) (m := 16) (by omega) (fun k hk => (h.bl_bound ht he hk).1) k (by omega)
  have h2 := sumN_bound' (B := 878400) (m := 16) (by omega) (fun k hk => (h.bl_bound ht he hk).2) k (by omega)
  omega
theorem bOut_nonneg (t a b : List Int) (e : Int) : ∀ k, 0 ≤ bOut t a b e k
  | 0 => by simp [bOut]
  | k + 1 => by
    have := bOut_nonneg t a b e k
    unfold bOut mx ab; (repeat' split) <;> omega
end Go.Plain

namespace Go.Plain
theorem psum_pre {B : Int} {l : List Int} : ∀ {i : Nat}, i ≤ l.length → (∀ j < i, -B ≤ l.getD j 0 ∧ l.getD j 0 ≤ B) → -(B * i) ≤ psum l i ∧ psum l i ≤ B * i
  | 0, _, _ => by simp [psum]
  | i + 1, hi, h => by
    have h1 := psum_pre (B := B) (l := l) (i := i) (by omega) fun j hj => h j (by omega)
    have h2 := h i (by omega)
    have e : B * ((i + 1 : Nat) : Int) = B * i + B := by push_cast; rw [Int.mul_add]; omega
    rw [psum_succ (by omega), e]; omega
theorem allIn_of {l : List Int} {lo hi : Int} (h : ∀ j < l.length, lo ≤ l.getD j 0 ∧ l.getD j 0 ≤ hi) : AllIn l lo hi := by
  intro n hn
  obtain ⟨j, hj, rfl⟩ := List.mem_iff_getElem.1 hn
  have := h j hj
  simpa [List.getD_eq_getElem?_getD, hj] using this
theorem not_allIn {l : List Int} {lo hi : Int} {j : Nat} (hj : j < l.length) (h : ¬ (lo ≤ l.getD j 0 ∧ l.getD j 0 ≤ hi)) : ¬ AllIn l lo hi := fun ha => h (ha _ (getD_mem hj))
end Go.Plain

namespace Go.Plain
theorem psum_ax_sq {a b : List Int} (hl : b.length = a.length) : ∀ {k : Nat}, k ≤ a.length → psum (axL a a b a.length) k + psum (axL b a b a.length) k = rs a b k * rs a b k
  | 0, _ => by simp [psum, rs]
  | k + 1, hk => by
    have h1 := psum_ax_sq hl (k := k) (by omega)
    have h2 : psum (axL a a b a.length) (k + 1) = psum (axL a a b a.length) k + (axL a a b a.length).getD k 0 := psum_succ (by rw [axL_len]; omega)
    have h3 : psum (axL b a b a.length) (k + 1) = psum (axL b a b a.length) k + (axL b a b a.length).getD k 0 := psum_succ (by rw [axL_len]; omega)
    rw [axL_getD (by omega)] at h2 h3
    have h4 := rs_succ (a := a) (b := b) (k := k) (by omega) hl
    rw [h2, h3]
    unfold axF
    generalize rs a b (k + 1) = y at *
    generalize rs a b k = x at *
    generalize a.getD k 0 = p at *
    generalize b.getD k 0 = q at *
    subst h4
    have e : x * x + (p * (x + (x + p + q)) + q * (x + (x + p + q))) = (x + p + q) * (x + p + q) := by
      simp only [Int.mul_add, Int.add_mul]
      have e1 : p * x = x * p := Int.mul_comm _ _
      have e2 : q * x = x * q := Int.mul_comm _ _
      have e3 : q * p = p * q := Int.mul_comm _ _
      omega
    omega
theorem VW.rs_end {a b : List Int} (h : VW a b) : rs a b a.length = 0 := by
  unfold rs
  have := h.sum; have := h.len
  rw [psum_all, show a.length = b.length from h.len.symm, psum_all]; omega
theorem VW.ax_sum {a b : List Int} (h : VW a b) : psum (axL a a b a.length) a.length + psum (axL b a b a.length) a.length = 0 := by
  rw [psum_ax_sq h.len (Nat.le_refl _), h.rs_end]; rfl
/-- Opposite ampere turns at each level so far. -/
def Bal (a b : List Int) (n : Nat) : Prop := ∀ j < n, a.getD j 0 = -b.getD j 0
instance (a b : List Int) (n : Nat) : Decidable (Bal a b n) := inferInstanceAs (Decidable (∀ j < n, a.getD j 0 = -b.getD j 0))
theorem bal_succ {a b : List Int} {n : Nat} (h : Bal a b n) : (a.getD n 0 == -b.getD n 0) = decide (Bal a b (n + 1)) := by
  rw [Bool.eq_iff_iff, beq_iff_eq, decide_eq_true_iff]
  constructor
  · intro e j hj
    by_cases e' : j = n
    · subst e'; exact e
    · exact h j (by omega)
  · intro e; exact e n (by omega)
theorem not_bal_succ {a b : List Int} {n : Nat} (h : ¬ Bal a b n) : false = decide (Bal a b (n + 1)) := by
  rw [eq_comm, decide_eq_false_iff_not]
  intro e; exact h fun j hj => e j (by omega)
theorem bal_rs {a b : List Int} (hl : b.length = a.length) {n : Nat} (h : Bal a b n) : ∀ {k : Nat}, k ≤ n → k ≤ a.length → rs a b k = 0
  | 0, _, _ => by simp [rs, psum]
  | k + 1, hk, hk' => by
    rw [rs_succ (by omega) hl, bal_rs hl h (k := k) (by omega) (by omega), h k (by omega)]; omega
theorem bal_ax {t a b : List Int} (hl : b.length = a.length) (h : Bal a b a.length) {k : Nat} (hk : k < a.length) : axF t a b k = 0 := by
  unfold axF
  rw [bal_rs hl h (k := k) (by omega) (by omega), bal_rs hl h (k := k + 1) (by omega) (by omega)]; simp
theorem rd_sq (a b : List Int) (k : Nat) : rdI a b k + rdO a b k = (a.getD k 0 - b.getD k 0) * (a.getD k 0 - b.getD k 0) := by
  unfold rdI rdO
  rw [← Int.add_mul]; rfl
end Go.Plain

namespace Go.Plain
def lowNum (n d : Int) : Int := n / Int.gcd n d
def lowDen (n d : Int) : Int := d / Int.gcd n d
theorem gcd_pos' {n d : Int} (hd : 0 < d) : (0 : Int) < Int.gcd n d := by
  have := Int.gcd_pos_of_ne_zero_right n (show d ≠ 0 by omega); omega
theorem low_num_eq (n d : Int) : n = Int.gcd n d * lowNum n d := by
  unfold lowNum; exact (Int.mul_ediv_cancel' (Int.gcd_dvd_left ..)).symm
theorem low_den_eq (n d : Int) : d = Int.gcd n d * lowDen n d := by
  unfold lowDen; exact (Int.mul_ediv_cancel' (Int.gcd_dvd_right ..)).symm
theorem lowDen_pos {n d : Int} (hd : 0 < d) : 0 < lowDen n d := by
  have h1 := gcd_pos' (n := n) hd
  have h2 := low_den_eq n d
  rcases Int.lt_or_le 0 (lowDen n d) with h | h
  · exact h
  · have := Int.mul_nonneg (Int.le_of_lt h1) (show 0 ≤ -lowDen n d by omega)
    rw [Int.mul_neg] at this
    omega
theorem lowNum_nonneg {n d : Int} (hn : 0 ≤ n) : 0 ≤ lowNum n d := Int.ediv_nonneg hn (by omega)
theorem low_gcd {n d : Int} (hd : 0 < d) : Int.gcd (lowNum n d) (lowDen n d) = 1 := by
  unfold lowNum lowDen
  exact Int.gcd_ediv_gcd_ediv_gcd (Int.gcd_pos_of_ne_zero_right n (show d ≠ 0 by omega))
theorem low_le {n d : Int} (hn : 0 ≤ n) (hd : 0 < d) : lowNum n d ≤ n ∧ lowDen n d ≤ d := by
  unfold lowNum lowDen
  have h1 := Int.natAbs_ediv_le_natAbs n (Int.gcd n d)
  have h2 := Int.natAbs_ediv_le_natAbs d (Int.gcd n d)
  omega
/-- Comparing with the square of a fraction. -/
theorem low_sq {n d : Int} (hd : 0 < d) (l u : Int) : l * (lowDen n d * lowDen n d) < u * (lowNum n d * lowNum n d) ↔ l * (d * d) < u * (n * n) := by
  have hg := gcd_pos' (n := n) hd
  have e1 := low_num_eq n d
  have e2 := low_den_eq n d
  generalize (Int.gcd n d : Int) = g at *
  generalize lowNum n d = p at *
  generalize lowDen n d = q at *
  subst e1 e2
  have hgg : 0 < g * g := Int.mul_pos hg hg
  have a1 : l * (g * q * (g * q)) = g * g * (l * (q * q)) := by
    rw [Int.mul_assoc g q, Int.mul_left_comm q g q, ← Int.mul_assoc g g, Int.mul_left_comm]
  have a2 : u * (g * p * (g * p)) = g * g * (u * (p * p)) := by
    rw [Int.mul_assoc g p, Int.mul_left_comm p g p, ← Int.mul_assoc g g, Int.mul_left_comm]
  rw [a1, a2]
  exact (Int.mul_lt_mul_left hgg).symm
theorem sq_mono {x y : Int} (hx : 0 ≤ x) (h : x ≤ y) : x * x ≤ y * y := Int.mul_le_mul h h hx (by omega)
/-- A greater unit, a smaller limit, a greater current: it exceeds all the more. -/
theorem exc_mono {l l' d d' u u' n n' : Int} (hl : 0 ≤ l') (hll : l' ≤ l) (hd : 0 ≤ d') (hdd : d' ≤ d) (hu : 0 ≤ u) (huu : u ≤ u') (hn : 0 ≤ n) (hnn : n ≤ n') (h : l * (d * d) < u * (n * n)) : l' * (d' * d') < u' * (n' * n') := by
  have h1 : l' * (d' * d') ≤ l * (d * d) := Int.mul_le_mul hll (sq_mono hd hdd) (Int.mul_nonneg hd hd) (by omega)
  have h2 : u * (n * n) ≤ u' * (n' * n') := Int.mul_le_mul huu (sq_mono hn hnn) (Int.mul_nonneg hn hn) (by omega)
  omega
/-- Comparing two fractions in lowest terms. -/
theorem low_cross {n d m k : Int} (hd : 0 < d) (hk : 0 < k) (h : n * k ≤ m * d) : lowNum n d * lowDen m k ≤ lowNum m k * lowDen n d := by
  have hg := gcd_pos' (n := n) hd
  have e1 := low_num_eq n d
  have e2 := low_den_eq n d
  have hf := gcd_pos' (n := m) hk
  have e3 := low_num_eq m k
  have e4 := low_den_eq m k
  generalize (Int.gcd n d : Int) = g at *
  generalize lowNum n d = p at *
  generalize lowDen n d = q at *
  generalize (Int.gcd m k : Int) = f at *
  generalize lowNum m k = r at *
  generalize lowDen m k = s at *
  subst e1 e2 e3 e4
  have hgf : 0 < g * f := Int.mul_pos hg hf
  have a1 : g * p * (f * s) = g * f * (p * s) := by rw [Int.mul_assoc, Int.mul_left_comm p f s, ← Int.mul_assoc]
  have a2 : f * r * (g * q) = g * f * (r * q) := by rw [Int.mul_assoc, Int.mul_left_comm r g q, ← Int.mul_assoc, Int.mul_comm f g]
  rw [a1, a2] at h
  exact Int.le_of_mul_le_mul_left h hgf
def cmpF (p q r s : Int) : Int := if p * s < r * q then -1 else if p * s > r * q then 1 else 0
theorem cmpF_le {p q r s : Int} (h : p * s ≤ r * q) : cmpF p q r s ≤ 0 := by
  unfold cmpF; (repeat' split) <;> omega
end Go.Plain

namespace Go.Plain
/-- The greatest size. -/
def unL (l : List Int) : Int := l.foldl (fun m x => mx m (ab x)) 0
theorem unL_snoc (l : List Int) (x : Int) : unL (l ++ [x]) = mx (unL l) (ab x) := by simp [unL]
theorem unL_succ {l : List Int} {i : Nat} (h : i < l.length) : unL (l.take (i + 1)) = mx (unL (l.take i)) (ab (l.getD i 0)) := by rw [take_snoc (d := 0) h, unL_snoc]
theorem unL_bound {B : Int} (hB : 0 ≤ B) : ∀ {l : List Int}, (∀ x ∈ l, -B ≤ x ∧ x ≤ B) → 0 ≤ unL l ∧ unL l ≤ B := by
  have key : ∀ (l : List Int) (m : Int), 0 ≤ m ∧ m ≤ B → (∀ x ∈ l, -B ≤ x ∧ x ≤ B) → 0 ≤ l.foldl (fun m x => mx m (ab x)) m ∧ l.foldl (fun m x => mx m (ab x)) m ≤ B := by
    intro l
    induction l with
    | nil => intro m hm _; exact hm
    | cons x l ih =>
      intro m hm h
      refine ih _ ?_ fun y hy => h y (List.mem_cons_of_mem _ hy)
      have := h x List.mem_cons_self
      show 0 ≤ mx m (ab x) ∧ mx m (ab x) ≤ B
      unfold mx ab; split <;> omega
  intro l h
  exact key l 0 ⟨by omega, hB⟩ h
theorem unL_ge {l : List Int} {x : Int} (h : x ∈ l) : ab x ≤ unL l := by
  have key : ∀ (l : List Int) (m : Int), m ≤ l.foldl (fun m x => mx m (ab x)) m ∧ ∀ x ∈ l, ab x ≤ l.foldl (fun m x => mx m (ab x)) m := by
    intro l
    induction l with
    | nil => intro m; exact ⟨Int.le_refl _, by simp⟩
    | cons y l ih =>
      intro m
      obtain ⟨h1, h2⟩ := ih (mx m (ab y))
      have h3 : m ≤ mx m (ab y) ∧ ab y ≤ mx m (ab y) := by unfold mx; split <;> omega
      refine ⟨by simp only [List.foldl_cons]; omega, fun x hx => ?_⟩
      simp only [List.foldl_cons]
      rcases List.mem_cons.1 hx with rfl | hx
      · omega
      · exact h2 x hx
  exact (key l 0).2 x h
/-- The forces of a kind. -/
def kindL (a b : List Int) (k : Int) : List Int :=
  if k = 0 then sumsL (axL a a b a.length) (axL a a b a.length).length else if k = 1 then sumsL (axL b a b a.length) (axL b a b a.length).length else if k = 2 then rdIL a b a.length else rdOL a b a.length
theorem kindL_bound {a b : List Int} (hv : VW a b) (k : Int) : ∀ x ∈ kindL a b k, -9000000 ≤ x ∧ x ≤ 9000000 := by
  have hle := hv.le
  have pa : ∀ k, -9000000 ≤ psum (axL a a b a.length) k ∧ psum (axL a a b a.length) k ≤ 9000000 := fun k => by
    have := psum_bound (B := 600000) (by omega) (axL_mem hv hv.ra a.length) k
    have := axL_len a a b a.length
    omega
  have pb : ∀ k, -9000000 ≤ psum (axL b a b a.length) k ∧ psum (axL b a b a.length) k ≤ 9000000 := fun k => by
    have := psum_bound (B := 600000) (by omega) (axL_mem hv hv.rb a.length) k
    have := axL_len b a b a.length
    omega
  intro x hx
  unfold kindL at hx
  (repeat' split at hx)
  · obtain ⟨j, _, rfl⟩ := List.mem_map.1 hx; exact pa j
  · obtain ⟨j, _, rfl⟩ := List.mem_map.1 hx; exact pb j
  · obtain ⟨j, _, rfl⟩ := List.mem_map.1 hx; have := (hv.rd_bound j).1; omega
  · obtain ⟨j, _, rfl⟩ := List.mem_map.1 hx; have := (hv.rd_bound j).2; omega
theorem kindL_len {a b : List Int} (hv : VW a b) (k : Int) : (kindL a b k).length ≤ 16 := by
  have := hv.le
  unfold kindL
  (repeat' split) <;> simp [sumsL_len, axL_len, rdIL_len, rdOL_len] <;> omega
end Go.Plain

namespace Go.Plain
theorem mn4_le {p q r s : Int} : mn4 p q r s ≤ p ∧ mn4 p q r s ≤ q ∧ mn4 p q r s ≤ r ∧ mn4 p q r s ≤ s := by
  unfold mn4 mn; (repeat' split) <;> omega
theorem mx4_ge {p q r s : Int} : p ≤ mx4 p q r s ∧ q ≤ mx4 p q r s ∧ r ≤ mx4 p q r s ∧ s ≤ mx4 p q r s := by
  unfold mx4 mx; (repeat' split) <;> omega
theorem le_mn4 {p q r s z : Int} (h1 : z ≤ p) (h2 : z ≤ q) (h3 : z ≤ r) (h4 : z ≤ s) : z ≤ mn4 p q r s := by
  unfold mn4 mn; (repeat' split) <;> omega
theorem mx4_le {p q r s z : Int} (h1 : p ≤ z) (h2 : q ≤ z) (h3 : r ≤ z) (h4 : s ≤ z) : mx4 p q r s ≤ z := by
  unfold mx4 mx; (repeat' split) <;> omega
/-- A product with one factor in a range lies between those at its ends. -/
theorem mul_between {x c d y : Int} (hy : c ≤ y ∧ y ≤ d) : (x * c ≤ x * y ∧ x * y ≤ x * d) ∨ (x * d ≤ x * y ∧ x * y ≤ x * c) := by
  rcases Int.le_total 0 x with h | h
  · exact .inl ⟨Int.mul_le_mul_of_nonneg_left hy.1 h, Int.mul_le_mul_of_nonneg_left hy.2 h⟩
  · exact .inr ⟨Int.mul_le_mul_of_nonpos_left h hy.2, Int.mul_le_mul_of_nonpos_left h hy.1⟩
theorem pr_mem {a b c d x y : Int} (hx : a ≤ x ∧ x ≤ b) (hy : c ≤ y ∧ y ≤ d) : prLo a b c d ≤ x * y ∧ x * y ≤ prHi a b c d := by
  have h1 := mul_between (x := x) hy
  have h2 := mul_between (x := c) hx
  have h3 := mul_between (x := d) hx
  rw [Int.mul_comm c a, Int.mul_comm c x, Int.mul_comm c b] at h2
  rw [Int.mul_comm d a, Int.mul_comm d x, Int.mul_comm d b] at h3
  have g := mn4_le (p := a * c) (q := a * d) (r := b * c) (s := b * d)
  have k := mx4_ge (p := a * c) (q := a * d) (r := b * c) (s := b * d)
  unfold prLo prHi
  omega
theorem pr_sub {a b c d a' b' c' d' : Int} (h1 : a' ≤ a) (h2 : a ≤ b) (h3 : b ≤ b') (h4 : c' ≤ c) (h5 : c ≤ d) (h6 : d ≤ d') : prLo a' b' c' d' ≤ prLo a b c d ∧ prHi a b c d ≤ prHi a' b' c' d' := by
  have p1 := pr_mem (a := a') (b := b') (c := c') (d := d') (x := a) (y := c) (by omega) (by omega)
  have p2 := pr_mem (a := a') (b := b') (c := c') (d := d') (x := a) (y := d) (by omega) (by omega)
  have p3 := pr_mem (a := a') (b := b') (c := c') (d := d') (x := b) (y := c) (by omega) (by omega)
  have p4 := pr_mem (a := a') (b := b') (c := c') (d := d') (x := b) (y := d) (by omega) (by omega)
  exact ⟨le_mn4 p1.1 p2.1 p3.1 p4.1, mx4_le p1.2 p2.2 p3.2 p4.2⟩
theorem pr_le {a b c d : Int} (h1 : a ≤ b) (h2 : c ≤ d) : prLo a b c d ≤ prHi a b c d := by
  have := pr_mem (x := a) (y := c) (a := a) (b := b) (c := c) (d := d) (by omega) (by omega)
  omega
theorem tol_nonneg {e : Int} (he : 0 ≤ e) (k : Nat) : 0 ≤ 2 * e * (2 * (k : Int) + 1) := Int.mul_nonneg (by omega) (by omega)
theorem tol_mono {e e' : Int} (h : e ≤ e') (k : Nat) : 2 * e * (2 * (k : Int) + 1) ≤ 2 * e' * (2 * (k : Int) + 1) := Int.mul_le_mul_of_nonneg_right (by omega) (by omega)
theorem bLo_mono {t a b : List Int} {e e' : Int} (he : 0 ≤ e) (h : e ≤ e') (k : Nat) : bLo t a b e' k ≤ bLo t a b e k ∧ bHi t a b e k ≤ bHi t a b e' k ∧ bLo t a b e k ≤ bHi t a b e k := by
  have h1 := tol_nonneg he k
  have h2 := tol_mono h k
  have := pr_sub (a := t.getD k 0 - e) (b := t.getD k 0 + e) (c := rs a b k + rs a b (k + 1) - 2 * e * (2 * k + 1)) (d := rs a b k + rs a b (k + 1) + 2 * e * (2 * k + 1)) (a' := t.getD k 0 - e') (b' := t.getD k 0 + e') (c' := rs a b k + rs a b (k + 1) - 2 * e' * (2 * k + 1)) (d' := rs a b k + rs a b (k + 1) + 2 * e' * (2 * k + 1)) (by omega) (by omega) (by omega) (by omega) (by omega) (by omega)
  exact ⟨this.1, this.2, pr_le (by omega) (by omega)⟩
theorem sumN_le {f g : Nat → Int} : ∀ {n : Nat}, (∀ k < n, f k ≤ g k) → sumN f n ≤ sumN g n
  | 0, _ => by simp [sumN]
  | n + 1, h => by
    have h1 := sumN_le (f := f) (g := g) (n := n) fun k hk => h k (by omega)
    have h2 := h n (by omega)
    unfold sumN; omega
/-- A greater tolerance has no smaller bound. -/
theorem bOut_mono {t a b : List Int} {e e' : Int} (he : 0 ≤ e) (h : e ≤ e') : ∀ n, bOut t a b e n ≤ bOut t a b e' n
  | 0 => by simp [bOut]
  | n + 1 => by
    have h0 := bOut_mono (t := t) (a := a) (b := b) he h n
    have h1 := sumN_le (n := n + 1) fun k _ => (bLo_mono (t := t) (a := a) (b := b) he h k).1
    have h2 := sumN_le (n := n + 1) fun k _ => (bLo_mono (t := t) (a := a) (b := b) he h k).2.1
    have h3 := sumN_le (n := n + 1) fun k _ => (bLo_mono (t := t) (a := a) (b := b) he h k).2.2
    unfold bOut
    generalize sumN (bLo t a b e) (n + 1) = p at *
    generalize sumN (bHi t a b e) (n + 1) = q at *
    generalize sumN (bLo t a b e') (n + 1) = r at *
    generalize sumN (bHi t a b e') (n + 1) = s at *
    unfold mx ab; (repeat' split) <;> omega
theorem pr_same (x m : Int) : prLo x x m m = x * m ∧ prHi x x m m = x * m := by
  unfold prLo prHi mn4 mx4 mn mx; simp
theorem bLo_zero (t a b : List Int) (k : Nat) : bLo t a b 0 k = axF t a b k ∧ bHi t a b 0 k = axF t a b k := by
  unfold bLo bHi axF
  simp only [Int.mul_zero, Int.zero_mul, Int.sub_zero, Int.add_zero]
  exact pr_same _ _
theorem sumN_ax (t a b : List Int) {n : Nat} : ∀ {k : Nat}, k ≤ n → sumN (axF t a b) k = psum (axL t a b n) k
  | 0, _ => rfl
  | k + 1, hk => by
    rw [psum_succ (by rw [axL_len]; omega), axL_getD (by omega), ← sumN_ax t a b (n := n) (k := k) (by omega)]; rfl
theorem mx_same (m x : Int) : mx (mx m x) x = mx m x := by unfold mx; (repeat' split) <;> omega
/-- With the tolerance 0 the bounds are the unit forces. -/
theorem bOut_zero (t a b : List Int) (n : Nat) : ∀ {k : Nat}, k ≤ n → bOut t a b 0 k = unL (sumsL (axL t a b n) k)
  | 0, _ => by simp [bOut, sumsL, unL, psum, mx, ab]
  | k + 1, hk => by
    have e1 : sumN (bLo t a b 0) (k + 1) = psum (axL t a b n) (k + 1) := by
      rw [← sumN_ax t a b hk]; congr 1; funext j; exact (bLo_zero t a b j).1
    have e2 : sumN (bHi t a b 0) (k + 1) = psum (axL t a b n) (k + 1) := by
      rw [← sumN_ax t a b hk]; congr 1; funext j; exact (bLo_zero t a b j).2
    unfold bOut
    rw [e1, e2, mx_same, sumsL_succ, unL_snoc, bOut_zero t a b n (k := k) (by omega)]
/-- Two windows that differ by at most e. -/
def Near (a c : List Int) (e : Int) (n : Nat) : Prop := ∀ j < n, -e ≤ a.getD j 0 - c.getD j 0 ∧ a.getD j 0 - c.getD j 0 ≤ e
theorem near_psum {a c : List Int} {e : Int} (hl : c.length = a.length) (h : Near a c e a.length) : ∀ {k : Nat}, k ≤ a.length → -(e * k) ≤ psum a k - psum c k ∧ psum a k - psum c k ≤ e * k
  | 0, _ => by simp [psum]
  | k + 1, hk => by
    have h1 := near_psum hl h (k := k) (by omega)
    have h2 := h k (by omega)
    rw [psum_succ (by omega), psum_succ (by omega)]
    have e1 : e * ((k + 1 : Nat) : Int) = e * k + e := by push_cast; rw [Int.mul_add]; omega
    rw [e1]; omega
theorem near_rs {a b c d : List Int} {e : Int} (h1 : b.length = a.length) (h2 : c.length = a.length) (h3 : d.length = a.length) (ha : Near a c e a.length) (hb : Near b d e a.length) {k : Nat} (hk : k ≤ a.length) :
    -(2 * e * k) ≤ rs a b k - rs c d k ∧ rs a b k - rs c d k ≤ 2 * e * k := by
  have p := near_psum h2 ha hk
  have q := near_psum (a := b) (c := d) (by omega) (by rw [h1]; exact hb) (k := k) (by omega)
  unfold rs
  have : 2 * e * (k : Int) = e * k + e * k := by rw [Int.mul_assoc]; omega
  rw [this]; omega
theorem near_ax {t s a b c d : List Int} {e : Int} (h1 : b.length = a.length) (h2 : c.length = a.length) (h3 : d.length = a.length) (ha : Near a c e a.length) (hb : Near b d e a.length) (ht : Near t s e a.length) {k : Nat} (hk : k < a.length) :
    bLo t a b e k ≤ axF s c d k ∧ axF s c d k ≤ bHi t a b e k := by
  have p := near_rs h1 h2 h3 ha hb (k := k) (by omega)
  have q := near_rs h1 h2 h3 ha hb (k := k + 1) (by omega)
  have r := ht k hk
  have e1 : 2 * e * (2 * (k : Int) + 1) = 2 * e * k + 2 * e * ((k + 1 : Nat) : Int) := by
    push_cast
    rw [← Int.mul_add]
    congr 1; omega
  unfold axF bLo bHi
  rw [e1]
  exact pr_mem (by omega) (by omega)
theorem bOut_ge {t a b : List Int} {e : Int} : ∀ {n k : Nat}, k ≤ n → 0 < k → ab (sumN (bLo t a b e) k) ≤ bOut t a b e n ∧ ab (sumN (bHi t a b e) k) ≤ bOut t a b e n
  | 0, k, hk, h0 => by omega
  | n + 1, k, hk, h0 => by
    have key : bOut t a b e n ≤ bOut t a b e (n + 1) ∧ ab (sumN (bLo t a b e) (n + 1)) ≤ bOut t a b e (n + 1) ∧ ab (sumN (bHi t a b e) (n + 1)) ≤ bOut t a b e (n + 1) := by
      conv => rhs; unfold bOut
      conv => lhs; rhs; unfold bOut
      unfold mx
      (repeat' split) <;> omega
    by_cases hn : k = n + 1
    · subst hn; exact key.2
    · have := bOut_ge (t := t) (a := a) (b := b) (e := e) (n := n) (k := k) (by omega) h0
      omega
/-- No thrust of a window that is near exceeds the bound. -/
theorem near_thrust {t s a b c d : List Int} {e : Int} (h1 : b.length = a.length) (h2 : c.length = a.length) (h3 : d.length = a.length) (ha : Near a c e a.length) (hb : Near b d e a.length) (ht : Near t s e a.length) {k : Nat} (hk : k ≤ a.length) :
    -bOut t a b e a.length ≤ psum (axL s c d a.length) k ∧ psum (axL s c d a.length) k ≤ bOut t a b e a.length := by
  by_cases h0 : k = 0
  · subst h0
    have := bOut_nonneg t a b e a.length
    rw [psum_zero]; omega
  · have g := bOut_ge (t := t) (a := a) (b := b) (e := e) (n := a.length) hk (by omega)
    have p := sumN_le (n := k) fun j hj => (near_ax h1 h2 h3 ha hb ht (show j < a.length by omega)).1
    have q := sumN_le (n := k) fun j hj => (near_ax h1 h2 h3 ha hb ht (show j < a.length by omega)).2
    have r := sumN_ax s c d (n := a.length) hk
    have p' : sumN (bLo t a b e) k ≤ psum (axL s c d a.length) k := by rw [← r]; exact p
    have q' : psum (axL s c d a.length) k ≤ sumN (bHi t a b e) k := by rw [← r]; exact q
    unfold ab at g
    omega
end Go.Plain
