/- Plain: the product of two words by halves. -/
import Derived.IntWalk
namespace Go.Fw
open Go.IntWalk

theorem u64_mask (x : Int) (h : 0 ≤ x ∧ x < 2 ^ 64) : IntKind.u64.wrap ((BitVec.ofInt IntKind.u64.bits x &&& BitVec.ofInt IntKind.u64.bits 4294967295).toNat : Nat) = x % 4294967296 := by
  obtain ⟨n, rfl⟩ := Int.eq_ofNat_of_zero_le h.1
  have hn : n < 2 ^ 64 := by omega
  have e : (BitVec.ofInt IntKind.u64.bits (n : Int) &&& BitVec.ofInt IntKind.u64.bits 4294967295).toNat = n % 4294967296 := by
    show (BitVec.ofInt 64 (n : Int) &&& BitVec.ofInt 64 4294967295).toNat = _
    rw [BitVec.toNat_and]
    have e1 : (BitVec.ofInt 64 (n : Int)).toNat = n := by simp; omega
    have e2 : (BitVec.ofInt 64 4294967295).toNat = 2 ^ 32 - 1 := by decide
    rw [e1, e2, Nat.and_two_pow_sub_one_eq_mod]
  rw [e, u64_in _ (by omega)]; omega

theorem u64_half (x : Int) : x.fdiv (2 ^ min (Int.toNat 32) IntKind.u64.bits) = x / 4294967296 := by
  show x.fdiv (2 ^ 32) = _
  rw [Int.fdiv_eq_ediv_of_nonneg _ (by decide)]; rfl

theorem u64_wrap (x : Int) : IntKind.u64.wrap x = x % 18446744073709551616 := by
  simp [IntKind.wrap, IntKind.bits, IntKind.signed]

theorem half_prod {x y : Int} (hx : 0 ≤ x ∧ x < 4294967296) (hy : 0 ≤ y ∧ y < 4294967296) : 0 ≤ x * y ∧ x * y ≤ 18446744065119617025 :=
  ⟨Int.mul_nonneg hx.1 hy.1, by have := Int.mul_le_mul (show x ≤ 4294967295 by omega) (show y ≤ 4294967295 by omega) hy.1 (by omega); omega⟩

theorem mul_halves (a b : Int) :
    a * b = (a / 4294967296) * (b / 4294967296) * 18446744073709551616 + ((a / 4294967296) * (b % 4294967296) + (a % 4294967296) * (b / 4294967296)) * 4294967296 + (a % 4294967296) * (b % 4294967296) := by
  have h1 : a = 4294967296 * (a / 4294967296) + a % 4294967296 := (Int.mul_ediv_add_emod a 4294967296).symm
  have h2 : b = 4294967296 * (b / 4294967296) + b % 4294967296 := (Int.mul_ediv_add_emod b 4294967296).symm
  generalize a / 4294967296 = p at *
  generalize a % 4294967296 = q at *
  generalize b / 4294967296 = r at *
  generalize b % 4294967296 = s at *
  subst h1; subst h2
  grind

end Go.Fw

/- Plain facts on lists of ints. -/
namespace Go.Plain
theorem take_snoc {α : Type} {l : List α} {i : Nat} {d : α} (h : i < l.length) : l.take (i + 1) = l.take i ++ [l.getD i d] := by
  rw [List.take_succ_eq_append_getElem h]; simp [List.getD_eq_getElem?_getD, h]
theorem getD_mem {α : Type} {l : List α} {i : Nat} {d : α} (h : i < l.length) : l.getD i d ∈ l := by
  simp [List.getD_eq_getElem?_getD, h]
theorem sum_snoc (l : List Int) (x : Int) : (l ++ [x]).sum = l.sum + x := by simp
theorem sum_take_succ {l : List Int} {i : Nat} (h : i < l.length) : (l.take (i + 1)).sum = (l.take i).sum + l.getD i 0 := by
  rw [take_snoc (d := 0) h, sum_snoc]
theorem sum_bound {B : Int} (hB : 0 ≤ B) : ∀ {l : List Int}, (∀ n ∈ l, -B ≤ n ∧ n ≤ B) → -(B * l.length) ≤ l.sum ∧ l.sum ≤ B * l.length
  | [], _ => by simp
  | x :: l, h => by
    have h1 := h x List.mem_cons_self
    have h2 := sum_bound hB (l := l) fun n hn => h n (List.mem_cons_of_mem _ hn)
    have e : B * ((x :: l).length : Int) = B * l.length + B := by rw [List.length_cons]; push_cast; rw [Int.mul_add]; omega
    rw [e, List.sum_cons]; omega
theorem sum_take_bound {B : Int} (hB : 0 ≤ B) {l : List Int} (h : ∀ n ∈ l, -B ≤ n ∧ n ≤ B) (i : Nat) : -(B * l.length) ≤ (l.take i).sum ∧ (l.take i).sum ≤ B * l.length := by
  have h1 := sum_bound hB (l := l.take i) fun n hn => h n (List.mem_of_mem_take hn)
  have h2 : B * ((l.take i).length : Int) ≤ B * l.length := Int.mul_le_mul_of_nonneg_left (by simp; omega) hB
  omega
theorem find_drop {α : Type} {l : List α} {i : Nat} {d : α} (h : i < l.length) : l.drop i = l.getD i d :: l.drop (i + 1) := by
  rw [List.drop_eq_getElem_cons h]; simp [List.getD_eq_getElem?_getD, h]
end Go.Plain
namespace Go.Plain
theorem rangeMap_getD {α : Type} {n i : Nat} {f : Nat → α} {d : α} (h : i < n) : ((List.range n).map f).getD i d = f i := by
  simp [List.getD_eq_getElem?_getD, h]
theorem rangeMap_succ {α : Type} {n : Nat} {f : Nat → α} : (List.range (n + 1)).map f = (List.range n).map f ++ [f n] := by
  simp [List.range_succ]
/-- Sums of the first numbers. -/
def psum (l : List Int) (k : Nat) : Int := (l.take k).sum
theorem psum_zero (l : List Int) : psum l 0 = 0 := rfl
theorem psum_succ {l : List Int} {k : Nat} (h : k < l.length) : psum l (k + 1) = psum l k + l.getD k 0 := sum_take_succ h
theorem psum_bound {B : Int} (hB : 0 ≤ B) {l : List Int} (h : ∀ n ∈ l, -B ≤ n ∧ n ≤ B) (k : Nat) : -(B * l.length) ≤ psum l k ∧ psum l k ≤ B * l.length := sum_take_bound hB h k
/-- The residual at a boundary. -/
def rs (a b : List Int) (k : Nat) : Int := psum a k + psum b k
def residL (a b : List Int) (n : Nat) : List Int := (List.range (n + 1)).map (rs a b)
theorem residL_len (a b : List Int) (n : Nat) : (residL a b n).length = n + 1 := by simp [residL]
theorem residL_getD {a b : List Int} {n k : Nat} (h : k ≤ n) : (residL a b n).getD k 0 = rs a b k := rangeMap_getD (by omega)
theorem residL_succ (a b : List Int) (n : Nat) : residL a b (n + 1) = residL a b n ++ [rs a b (n + 1)] := rangeMap_succ
/-- All numbers are from lo to hi. -/
def AllIn (l : List Int) (lo hi : Int) : Prop := ∀ n ∈ l, lo ≤ n ∧ n ≤ hi
instance (l : List Int) (lo hi : Int) : Decidable (AllIn l lo hi) := inferInstanceAs (Decidable (∀ n ∈ l, lo ≤ n ∧ n ≤ hi))
/-- The error of a window. -/
def windowErr (a b : List Int) : Int :=
  if 0 < a.length ∧ a.length = b.length then if a.length ≤ 15 then if AllIn a (-100) 100 then if AllIn b (-100) 100 then if a.sum + b.sum = 0 then 0 else 13 else 2 else 2 else 8 else 10
structure VW (a b : List Int) : Prop where
  len : b.length = a.length
  pos : 0 < a.length
  le : a.length ≤ 15
  ra : ∀ n ∈ a, -100 ≤ n ∧ n ≤ 100
  rb : ∀ n ∈ b, -100 ≤ n ∧ n ≤ 100
  sum : a.sum + b.sum = 0
theorem windowErr_zero {a b : List Int} : windowErr a b = 0 ↔ VW a b := by
  unfold windowErr
  constructor
  · intro h
    (repeat' split at h) <;> first | omega | skip
    rename_i h1 h2 h3 h4 h5
    exact ⟨by omega, by omega, by omega, h3, h4, by omega⟩
  · intro h
    have := h.len; have := h.pos; have := h.le
    rw [if_pos (by omega), if_pos (by omega), if_pos (show AllIn a (-100) 100 from h.ra), if_pos (show AllIn b (-100) 100 from h.rb), if_pos h.sum]
theorem VW.rs_bound {a b : List Int} (h : VW a b) (k : Nat) : -3000 ≤ rs a b k ∧ rs a b k ≤ 3000 := by
  have h1 := psum_bound (B := 100) (by omega) h.ra k
  have h2 := psum_bound (B := 100) (by omega) h.rb k
  have := h.len; have := h.le
  unfold rs; omega
theorem VW.a_bound {a b : List Int} (h : VW a b) (k : Nat) : -100 ≤ a.getD k 0 ∧ a.getD k 0 ≤ 100 := by
  by_cases hk : k < a.length
  · exact h.ra _ (getD_mem hk)
  · simp [List.getD_eq_getElem?_getD, List.getElem?_eq_none (by omega : a.length ≤ k)]
theorem VW.b_bound {a b : List Int} (h : VW a b) (k : Nat) : -100 ≤ b.getD k 0 ∧ b.getD k 0 ≤ 100 := by
  by_cases hk : k < b.length
  · exact h.rb _ (getD_mem hk)
  · simp [List.getD_eq_getElem?_getD, List.getElem?_eq_none (by omega : b.length ≤ k)]
theorem rs_succ {a b : List Int} {k : Nat} (h : k < a.length) (hl : b.length = a.length) : rs a b (k + 1) = rs a b k + a.getD k 0 + b.getD k 0 := by
  unfold rs; rw [psum_succ h, psum_succ (by omega)]; omega
theorem psum_all (l : List Int) : psum l l.length = l.sum := by simp [psum]
instance (a b : List Int) : Decidable (VW a b) := decidable_of_iff _ windowErr_zero
end Go.Plain

namespace Go.Plain
/-- Axial and radial forces, thrusts. -/
def axF (t a b : List Int) (k : Nat) : Int := t.getD k 0 * (rs a b k + rs a b (k + 1))
def axL (t a b : List Int) (n : Nat) : List Int := (List.range n).map (axF t a b)
theorem axL_len (t a b : List Int) (n : Nat) : (axL t a b n).length = n := by simp [axL]
theorem axL_succ (t a b : List Int) (n : Nat) : axL t a b (n + 1) = axL t a b n ++ [axF t a b n] := rangeMap_succ
theorem axL_getD {t a b : List Int} {n k : Nat} (h : k < n) : (axL t a b n).getD k 0 = axF t a b k := rangeMap_getD h
theorem mul_bound {x y A B : Int} (hx : -A ≤ x ∧ x ≤ A) (hy : -B ≤ y ∧ y ≤ B) (hA : 0 ≤ A) : -(A * B) ≤ x * y ∧ x * y ≤ A * B := by
  have hB : 0 ≤ B := by omega
  have h1 : x.natAbs ≤ A.natAbs := by omega
  have h2 : y.natAbs ≤ B.natAbs := by omega
  have h3 : x.natAbs * y.natAbs ≤ A.natAbs * B.natAbs := Nat.mul_le_mul h1 h2
  rw [← Int.natAbs_mul, ← Int.natAbs_mul] at h3
  have : 0 ≤ A * B := Int.mul_nonneg hA hB
  omega
theorem VW.ax_bound {t a b : List Int} (h : VW a b) (ht : ∀ n ∈ t, -100 ≤ n ∧ n ≤ 100) (k : Nat) : -600000 ≤ axF t a b k ∧ axF t a b k ≤ 600000 := by
  have h1 : -100 ≤ t.getD k 0 ∧ t.getD k 0 ≤ 100 := by
    by_cases hk : k < t.length
    · exact ht _ (getD_mem hk)
    · simp [List.getD_eq_getElem?_getD, List.getElem?_eq_none (by omega : t.length ≤ k)]
  have h2 := h.rs_bound k
  have h3 := h.rs_bound (k + 1)
  have := mul_bound (A := 100) (B := 6000) h1 (show -6000 ≤ rs a b k + rs a b (k + 1) ∧ rs a b k + rs a b (k + 1) ≤ 6000 by omega) (by omega)
  unfold axF; omega
theorem axL_mem {t a b : List Int} (h : VW a b) (ht : ∀ n ∈ t, -100 ≤ n ∧ n ≤ 100) (n : Nat) : ∀ x ∈ axL t a b n, -600000 ≤ x ∧ x ≤ 600000 := by
  intro x hx
  obtain ⟨k, _, rfl⟩ := List.mem_map.1 hx
  exact h.ax_bound ht k
def sumsL (l : List Int) (n : Nat) : List Int := (List.range (n + 1)).map (psum l)
theorem sumsL_len (l : List Int) (n : Nat) : (sumsL l n).length = n + 1 := by simp [sumsL]
theorem sumsL_succ (l : List Int) (n : Nat) : sumsL l (n + 1) = sumsL l n ++ [psum l (n + 1)] := rangeMap_succ
theorem sumsL_getD {l : List Int} {n k : Nat} (h : k ≤ n) : (sumsL l n).getD k 0 = psum l k := rangeMap_getD (by omega)
def rdI (a b : List Int) (k : Nat) : Int := a.getD k 0 * (a.getD k 0 - b.getD k 0)
def rdO (a b : List Int) (k : Nat) : Int := -b.getD k 0 * (a.getD k 0 - b.getD k 0)
def rdIL (a b : List Int) (n : Nat) : List Int := (List.range n).map (rdI a b)
def rdOL (a b : List Int) (n : Nat) : List Int := (List.range n).map (rdO a b)
theorem rdIL_succ (a b : List Int) (n : Nat) : rdIL a b (n + 1) = rdIL a b n ++ [rdI a b n] := rangeMap_succ
theorem rdOL_succ (a b : List Int) (n : Nat) : rdOL a b (n + 1) = rdOL a b n ++ [rdO a b n] := rangeMap_succ
theorem rdIL_len (a b : List Int) (n : Nat) : (rdIL a b n).length = n := by simp [rdIL]
theorem rdOL_len (a b : List Int) (n : Nat) : (rdOL a b n).length = n := by simp [rdOL]
theorem rdIL_getD {a b : List Int} {n k : Nat} (h : k < n) : (rdIL a b n).getD k 0 = rdI a b k := rangeMap_getD h
theorem rdOL_getD {a b : List Int} {n k : Nat} (h : k < n) : (rdOL a b n).getD k 0 = rdO a b k := rangeMap_getD h
theorem VW.rd_bound {a b : List Int} (h : VW a b) (k : Nat) : (-20000 ≤ rdI a b k ∧ rdI a b k ≤ 20000) ∧ (-20000 ≤ rdO a b k ∧ rdO a b k ≤ 20000) := by
  have h1 := h.a_bound k
  have h2 := h.b_bound k
  have h3 := mul_bound (A := 100) (B := 200) h1 (show -200 ≤ a.getD k 0 - b.getD k 0 ∧ a.getD k 0 - b.getD k 0 ≤ 200 by omega) (by omega)
  have h4 := mul_bound (A := 100) (B := 200) (show -100 ≤ -b.getD k 0 ∧ -b.getD k 0 ≤ 100 by omega) (show -200 ≤ a.getD k 0 - b.getD k 0 ∧ a.getD k 0 - b.getD k 0 ≤ 200 by omega) (by omega)
  unfold rdI rdO; omega
end Go.Plain

namespace Go.Plain
def mn (a b : Int) : Int := if b < a then b else a
def mx (a b : Int) : Int := if b > a then b else a
def mn4 (p q r s : Int) : Int := mn (mn (mn p q) r) s
def mx4 (p q r s : Int) : Int := mx (mx (mx p q) r) s
theorem mn4_bound {p q r s B : Int} (hp : -B ≤ p ∧ p ≤ B) (hq : -B ≤ q ∧ q ≤ B) (hr : -B ≤ r ∧ r ≤ B) (hs : -B ≤ s ∧ s ≤ B) : -B ≤ mn4 p q r s ∧ mn4 p q r s ≤ B := by
  unfold mn4 mn; (repeat' split) <;> omega
theorem mx4_bound {p q r s B : Int} (hp : -B ≤ p ∧ p ≤ B) (hq : -B ≤ q ∧ q ≤ B) (hr : -B ≤ r ∧ r ≤ B) (hs : -B ≤ s ∧ s ≤ B) : -B ≤ mx4 p q r s ∧ mx4 p q r s ≤ B := by
  unfold mx4 mx; (repeat' split) <;> omega
/-- The ends of the products of two ranges. -/
def prLo (a b c d : Int) : Int := mn4 (a * c) (a * d) (b * c) (b * d)
def prHi (a b c d : Int) : Int := mx4 (a * c) (a * d) (b * c) (b * d)
def sumN (f : Nat → Int) : Nat → Int
  | 0 => 0
  | n + 1 => sumN f n + f n
theorem sumN_bound {f : Nat → Int} {B : Int} (hB : 0 ≤ B) (h : ∀ k, -B ≤ f k ∧ f k ≤ B) : ∀ n : Nat, -(B * n) ≤ sumN f n ∧ sumN f n ≤ B * n
  | 0 => by simp [sumN]
  | n + 1 => by
    have h1 := sumN_bound hB h n
    have h2 := h n
    have e : B * ((n + 1 : Nat) : Int) = B * n + B := by push_cast; rw [Int.mul_add]; omega
    rw [e]; unfold sumN; omega
/-- The ends of an axial force for a tolerance. -/
def bLo (t a b : List Int) (e : Int) (k : Nat) : Int := prLo (t.getD k 0 - e) (t.getD k 0 + e) (rs a b k + rs a b (k + 1) - 2 * e * (2 * k + 1)) (rs a b k + rs a b (k + 1) + 2 * e * (2 * k + 1))
def bHi (t a b : List Int) (e : Int) (k : Nat) : Int := prHi (t.getD k 0 - e) (t.getD k 0 + e) (rs a b k + rs a b (k + 1) - 2 * e * (2 * k + 1)) (rs a b k + rs a b (k + 1) + 2 * e * (2 * k + 1))
def ab (n : Int) : Int := n.natAbs
def bOut (t a b : List Int) (e : Int) : Nat → Int
  | 0 => 0
  | k + 1 => mx (mx (bOut t a b e k) (ab (sumN (bLo t a b e) (k + 1)))) (ab (sumN (bHi t a b e) (k + 1)))
theorem VW.t_bound {t a b : List Int} (_ : VW a b) (ht : ∀ n ∈ t, -100 ≤ n ∧ n ≤ 100) (k : Nat) : -100 ≤ t.getD k 0 ∧ t.getD k 0 ≤ 100 := by
  by_cases hk : k < t.length
  · exact ht _ (getD_mem hk)
  · simp [List.getD_eq_getElem?_getD, List.getElem?_eq_none (by omega : t.length ≤ k)]
theorem tol_bound {e : Int} {k : Nat} (he : 0 ≤ e ∧ e ≤ 20) (hk : k ≤ 16) : 0 ≤ 2 * e * (2 * (k : Int) + 1) ∧ 2 * e * (2 * (k : Int) + 1) ≤ 1320 := by
  have h1 : 0 ≤ 2 * e * (2 * (k : Int) + 1) := Int.mul_nonneg (by omega) (by omega)
  have h2 : 2 * e * (2 * (k : Int) + 1) ≤ 40 * 33 := Int.mul_le_mul (by omega) (by omega) (by omega) (by omega)
  omega
/-- What the products of the ends of both ranges are at most. -/
theorem end_bound {x e m q : Int} (hx : -100 ≤ x ∧ x ≤ 100) (he : 0 ≤ e ∧ e ≤ 20) (hm : -6000 ≤ m ∧ m ≤ 6000) (hq : 0 ≤ q ∧ q ≤ 1320) :
    (-878400 ≤ (x - e) * (m - q) ∧ (x - e) * (m - q) ≤ 878400) ∧ (-878400 ≤ (x - e) * (m + q) ∧ (x - e) * (m + q) ≤ 878400) ∧ (-878400 ≤ (x + e) * (m - q) ∧ (x + e) * (m - q) ≤ 878400) ∧ (-878400 ≤ (x + e) * (m + q) ∧ (x + e) * (m + q) ≤ 878400) := by
  refine ⟨?_, ?_, ?_, ?_⟩ <;> exact mul_bound (A := 120) (B := 7320) (by omega) (by omega) (by omega)
/-- At level k with a tolerance: all that is computed is small. -/
theorem VW.bl_bound {t a b : List Int} {e : Int} (h : VW a b) (ht : ∀ n ∈ t, -100 ≤ n ∧ n ≤ 100) (he : 0 ≤ e ∧ e ≤ 20) {k : Nat} (hk : k ≤ 16) : (-878400 ≤ bLo t a b e k ∧ bLo t a b e k ≤ 878400) ∧ (-878400 ≤ bHi t a b e k ∧ bHi t a b e k ≤ 878400) := by
  have h1 := h.t_bound ht k
  have h2 := h.rs_bound k
  have h3 := h.rs_bound (k + 1)
  have h4 := tol_bound he hk
  obtain ⟨p, q, r, s⟩ := end_bound h1 he (show -6000 ≤ rs a b k + rs a b (k + 1) ∧ rs a b k + rs a b (k + 1) ≤ 6000 by omega) h4
  exact ⟨mn4_bound p q r s, mx4_bound p q r s⟩
theorem sumN_bound' {f : Nat → Int} {B : Int} {m : Nat} (hB : 0 ≤ B) (h : ∀ k, k ≤ m → -B ≤ f k ∧ f k ≤ B) : ∀ n : Nat, n ≤ m + 1 → -(B * n) ≤ sumN f n ∧ sumN f n ≤ B * n
  | 0, _ => by simp [sumN]
  | n + 1, hn => by
    have h1 := sumN_bound' hB h n (by omega)
    have h2 := h n (by omega)
    have e : B * ((n + 1 : Nat) : Int) = B * n + B := by push_cast; rw [Int.mul_add]; omega
    rw [e]; unfold sumN; omega
theorem VW.bs_bound {t a b : List Int} {e : Int} (h : VW a b) (ht : ∀ n ∈ t, -100 ≤ n ∧ n ≤ 100) (he : 0 ≤ e ∧ e ≤ 20) {k : Nat} (hk : k ≤ 16) : (-20000000 ≤ sumN (bLo t a b e) k ∧ sumN (bLo t a b e) k ≤ 20000000) ∧ (-20000000 ≤ sumN (bHi t a b e) k ∧ sumN (bHi t a b e) k ≤ 20000000) := by
  have h1 := sumN_bound' (B := 878400) (m := 16) (by omega) (fun k hk => (h.bl_bound ht he hk).1) k (by omega)
  have h2 := sumN_bound' (B := 878400) (m := 16) (by omega) (fun k hk => (h.bl_bound ht he hk).2) k (by omega)
  omega
theorem bOut_nonneg (t a b : List Int) (e : Int) : ∀ k, 0 ≤ bOut t a b e k
  | 0 => by simp [bOut]
  | k + 1 => by
    have := bOut_nonneg t a b e k
    unfold bOut mx ab; (repeat' split) <;> omega
end Go.Plain

namespace Go.Plain
theorem psum_pre {B : Int} {l : List Int} : ∀ {i : Nat}, i ≤ l.length → (∀ j < i, -B ≤ l.getD j 0 ∧ l.getD j 0 ≤ B) → -(B * i) ≤ psum l i ∧ psum l i ≤ B * i
  | 0, _, _ => by simp [psum]
  | i + 1, hi, h => by
    have h1 := psum_pre (B := B) (l := l) (i := i) (by omega) fun j hj => h j (by omega)
    have h2 := h i (by omega)
    have e : B * ((i + 1 : Nat) : Int) = B * i + B := by push_cast; rw [Int.mul_add]; omega
    rw [psum_succ (by omega), e]; omega
theorem allIn_of {l : List Int} {lo hi : Int} (h : ∀ j < l.length, lo ≤ l.getD j 0 ∧ l.getD j 0 ≤ hi) : AllIn l lo hi := by
  intro n hn
  obtain ⟨j, hj, rfl⟩ := List.mem_iff_getElem.1 hn
  have := h j hj
  simpa [List.getD_eq_getElem?_getD, hj] using this
theorem not_allIn {l : List Int} {lo hi : Int} {j : Nat} (hj : j < l.length) (h : ¬ (lo ≤ l.getD j 0 ∧ l.getD j 0 ≤ hi)) : ¬ AllIn l lo hi := fun ha => h (ha _ (getD_mem hj))
end Go.Plain

namespace Go.Plain
theorem psum_ax_sq {a b : List Int} (hl : b.length = a.length) : ∀ {k : Nat}, k ≤ a.length → psum (axL a a b a.length) k + psum (axL b a b a.length) k = rs a b k * rs a b k
  | 0, _ => by simp [psum, rs]
  | k + 1, hk => by
    have h1 := psum_ax_sq hl (k := k) (by omega)
    have h2 : psum (axL a a b a.length) (k + 1) = psum (axL a a b a.length) k + (axL a a b a.length).getD k 0 := psum_succ (by rw [axL_len]; omega)
    have h3 : psum (axL b a b a.length) (k + 1) = psum (axL b a b a.length) k + (axL b a b a.length).getD k 0 := psum_succ (by rw [axL_len]; omega)
    rw [axL_getD (by omega)] at h2 h3
    have h4 := rs_succ (a := a) (b := b) (k := k) (by omega) hl
    rw [h2, h3]
    unfold axF
    generalize rs a b (k + 1) = y at *
    generalize rs a b k = x at *
    generalize a.getD k 0 = p at *
    generalize b.getD k 0 = q at *
    subst h4
    have e : x * x + (p * (x + (x + p + q)) + q * (x + (x + p + q))) = (x + p + q) * (x + p + q) := by
      simp only [Int.mul_add, Int.add_mul]
      have e1 : p * x = x * p := Int.mul_comm _ _
      have e2 : q * x = x * q := Int.mul_comm _ _
      have e3 : q * p = p * q := Int.mul_comm _ _
      omega
    omega
theorem VW.rs_end {a b : List Int} (h : VW a b) : rs a b a.length = 0 := by
  unfold rs
  have := h.sum; have := h.len
  rw [psum_all, show a.length = b.length from h.len.symm, psum_all]; omega
theorem VW.ax_sum {a b : List Int} (h : VW a b) : psum (axL a a b a.length) a.length + psum (axL b a b a.length) a.length = 0 := by
  rw [psum_ax_sq h.len (Nat.le_refl _), h.rs_end]; rfl
/-- Opposite ampere turns at each level so far. -/
def Bal (a b : List Int) (n : Nat) : Prop := ∀ j < n, a.getD j 0 = -b.getD j 0
instance (a b : List Int) (n : Nat) : Decidable (Bal a b n) := inferInstanceAs (Decidable (∀ j < n, a.getD j 0 = -b.getD j 0))
theorem bal_succ {a b : List Int} {n : Nat} (h : Bal a b n) : (a.getD n 0 == -b.getD n 0) = decide (Bal a b (n + 1)) := by
  rw [Bool.eq_iff_iff, beq_iff_eq, decide_eq_true_iff]
  constructor
  · intro e j hj
    by_cases e' : j = n
    · subst e'; exact e
    · exact h j (by omega)
  · intro e; exact e n (by omega)
theorem not_bal_succ {a b : List Int} {n : Nat} (h : ¬ Bal a b n) : false = decide (Bal a b (n + 1)) := by
  rw [eq_comm, decide_eq_false_iff_not]
  intro e; exact h fun j hj => e j (by omega)
theorem bal_rs {a b : List Int} (hl : b.length = a.length) {n : Nat} (h : Bal a b n) : ∀ {k : Nat}, k ≤ n → k ≤ a.length → rs a b k = 0
  | 0, _, _ => by simp [rs, psum]
  | k + 1, hk, hk' => by
    rw [rs_succ (by omega) hl, bal_rs hl h (k := k) (by omega) (by omega), h k (by omega)]; omega
theorem bal_ax {t a b : List Int} (hl : b.length = a.length) (h : Bal a b a.length) {k : Nat} (hk : k < a.length) : axF t a b k = 0 := by
  unfold axF
  rw [bal_rs hl h (k := k) (by omega) (by omega), bal_rs hl h (k := k + 1) (by omega) (by omega)]; simp
theorem rd_sq (a b : List Int) (k : Nat) : rdI a b k + rdO a b k = (a.getD k 0 - b.getD k 0) * (a.getD k 0 - b.getD k 0) := by
  unfold rdI rdO
  rw [← Int.add_mul]; rfl
end Go.Plain

namespace Go.Plain
def lowNum (n d : Int) : Int := n / Int.gcd n d
def lowDen (n d : Int) : Int := d / Int.gcd n d
theorem gcd_pos' {n d : Int} (hd : 0 < d) : (0 : Int) < Int.gcd n d := by
  have := Int.gcd_pos_of_ne_zero_right n (show d ≠ 0 by omega); omega
theorem low_num_eq (n d : Int) : n = Int.gcd n d * lowNum n d := by
  unfold lowNum; exact (Int.mul_ediv_cancel' (Int.gcd_dvd_left ..)).symm
theorem low_den_eq (n d : Int) : d = Int.gcd n d * lowDen n d := by
  unfold lowDen; exact (Int.mul_ediv_cancel' (Int.gcd_dvd_right ..)).symm
theorem lowDen_pos {n d : Int} (hd : 0 < d) : 0 < lowDen n d := by
  have h1 := gcd_pos' (n := n) hd
  have h2 := low_den_eq n d
  rcases Int.lt_or_le 0 (lowDen n d) with h | h
  · exact h
  · have := Int.mul_nonneg (Int.le_of_lt h1) (show 0 ≤ -lowDen n d by omega)
    rw [Int.mul_neg] at this
    omega
theorem lowNum_nonneg {n d : Int} (hn : 0 ≤ n) : 0 ≤ lowNum n d := Int.ediv_nonneg hn (by omega)
theorem low_gcd {n d : Int} (hd : 0 < d) : Int.gcd (lowNum n d) (lowDen n d) = 1 := by
  unfold lowNum lowDen
  exact Int.gcd_ediv_gcd_ediv_gcd (Int.gcd_pos_of_ne_zero_right n (show d ≠ 0 by omega))
theorem low_le {n d : Int} (hn : 0 ≤ n) (hd : 0 < d) : lowNum n d ≤ n ∧ lowDen n d ≤ d := by
  unfold lowNum lowDen
  have h1 := Int.natAbs_ediv_le_natAbs n (Int.gcd n d)
  have h2 := Int.natAbs_ediv_le_natAbs d (Int.gcd n d)
  omega
/-- Comparing with the square of a fraction. -/
theorem low_sq {n d : Int} (hd : 0 < d) (l u : Int) : l * (lowDen n d * lowDen n d) < u * (lowNum n d * lowNum n d) ↔ l * (d * d) < u * (n * n) := by
  have hg := gcd_pos' (n := n) hd
  have e1 := low_num_eq n d
  have e2 := low_den_eq n d
  generalize (Int.gcd n d : Int) = g at *
  generalize lowNum n d = p at *
  generalize lowDen n d = q at *
  subst e1 e2
  have hgg : 0 < g * g := Int.mul_pos hg hg
  have a1 : l * (g * q * (g * q)) = g * g * (l * (q * q)) := by
    rw [Int.mul_assoc g q, Int.mul_left_comm q g q, ← Int.mul_assoc g g, Int.mul_left_comm]
  have a2 : u * (g * p * (g * p)) = g * g * (u * (p * p)) := by
    rw [Int.mul_assoc g p, Int.mul_left_comm p g p, ← Int.mul_assoc g g, Int.mul_left_comm]
  rw [a1, a2]
  exact (Int.mul_lt_mul_left hgg).symm
theorem sq_mono {x y : Int} (hx : 0 ≤ x) (h : x ≤ y) : x * x ≤ y * y := Int.mul_le_mul h h hx (by omega)
/-- A greater unit, a smaller limit, a greater current: it exceeds all the more. -/
theorem exc_mono {l l' d d' u u' n n' : Int} (hl : 0 ≤ l') (hll : l' ≤ l) (hd : 0 ≤ d') (hdd : d' ≤ d) (hu : 0 ≤ u) (huu : u ≤ u') (hn : 0 ≤ n) (hnn : n ≤ n') (h : l * (d * d) < u * (n * n)) : l' * (d' * d') < u' * (n' * n') := by
  have h1 : l' * (d' * d') ≤ l * (d * d) := Int.mul_le_mul hll (sq_mono hd hdd) (Int.mul_nonneg hd hd) (by omega)
  have h2 : u * (n * n) ≤ u' * (n' * n') := Int.mul_le_mul huu (sq_mono hn hnn) (Int.mul_nonneg hn hn) (by omega)
  omega
/-- Comparing two fractions in lowest terms. -/
theorem low_cross {n d m k : Int} (hd : 0 < d) (hk : 0 < k) (h : n * k ≤ m * d) : lowNum n d * lowDen m k ≤ lowNum m k * lowDen n d := by
  have hg := gcd_pos' (n := n) hd
  have e1 := low_num_eq n d
  have e2 := low_den_eq n d
  have hf := gcd_pos' (n := m) hk
  have e3 := low_num_eq m k
  have e4 := low_den_eq m k
  generalize (Int.gcd n d : Int) = g at *
  generalize lowNum n d = p at *
  generalize lowDen n d = q at *
  generalize (Int.gcd m k : Int) = f at *
  generalize lowNum m k = r at *
  generalize lowDen m k = s at *
  subst e1 e2 e3 e4
  have hgf : 0 < g * f := Int.mul_pos hg hf
  have a1 : g * p * (f * s) = g * f * (p * s) := by rw [Int.mul_assoc, Int.mul_left_comm p f s, ← Int.mul_assoc]
  have a2 : f * r * (g * q) = g * f * (r * q) := by rw [Int.mul_assoc, Int.mul_left_comm r g q, ← Int.mul_assoc, Int.mul_comm f g]
  rw [a1, a2] at h
  exact Int.le_of_mul_le_mul_left h hgf
def cmpF (p q r s : Int) : Int := if p * s < r * q then -1 else if p * s > r * q then 1 else 0
theorem cmpF_le {p q r s : Int} (h : p * s ≤ r * q) : cmpF p q r s ≤ 0 := by
  unfold cmpF; (repeat' split) <;> omega
end Go.Plain

/- Plain facts: division rounded down. -/
namespace Go.Plain
theorem tdiv_bound (a : Int) {b : Int} (_hb : 0 < b) : (a.tdiv b).natAbs ≤ a.natAbs := by
  rw [Int.natAbs_tdiv]
  exact Nat.div_le_self _ _
theorem floor_eq (a : Int) {b : Int} (hb : 0 < b) : a / b = if a.tmod b < 0 then a.tdiv b - 1 else a.tdiv b := by
  have h1 := Int.tmod_lt_of_pos a hb
  have h2 := Int.lt_tmod_of_pos a hb
  have h3 := Int.mul_tdiv_add_tmod a b
  split
  · exact ((Int.ediv_emod_unique hb (r := a.tmod b + b) (q := a.tdiv b - 1)).2 ⟨by rw [Int.mul_sub]; omega, by omega, by omega⟩).1
  · exact ((Int.ediv_emod_unique hb (r := a.tmod b) (q := a.tdiv b)).2 ⟨by omega, by omega, by omega⟩).1
theorem ediv_bound (a : Int) {b : Int} (_hb : 0 < b) : -(a.natAbs : Int) ≤ a / b ∧ a / b ≤ a.natAbs := by
  have := Int.natAbs_ediv_le_natAbs a b
  omega
end Go.Plain

/- Plain facts: the comparison of fractions by whole parts; end temperatures. -/
namespace Go.Plain
theorem mod_eq (a : Int) {b : Int} (hb : 0 < b) : a % b = if a.tmod b < 0 then a.tmod b + b else a.tmod b := by
  have h1 := Int.tmod_lt_of_pos a hb
  have h2 := Int.lt_tmod_of_pos a hb
  have h3 := Int.mul_tdiv_add_tmod a b
  split
  · exact ((Int.ediv_emod_unique hb (r := a.tmod b + b) (q := a.tdiv b - 1)).2 ⟨by rw [Int.mul_sub]; omega, by omega, by omega⟩).2
  · exact ((Int.ediv_emod_unique hb (r := a.tmod b) (q := a.tdiv b)).2 ⟨by omega, by omega, by omega⟩).2
theorem sgn_neg {x : Int} (h : x < 0) : x.sign = -1 := Int.sign_eq_neg_one_of_neg h
theorem sgn_pos {x : Int} (h : 0 < x) : x.sign = 1 := Int.sign_eq_one_of_pos h
theorem div_mod (n d : Int) : n / d * d = n - n % d := by
  have := Int.ediv_mul_add_emod n d
  omega
theorem cmp_lt {n d m k : Int} (hd : 0 < d) (hk : 0 < k) (h : n / d < m / k) : (n * k - m * d).sign = -1 := by
  refine sgn_neg ?_
  have h1 : n < (n / d + 1) * d := by rw [Int.add_mul, div_mod]; have := Int.emod_lt_of_pos n hd; omega
  have h2 : m / k * k ≤ m := by rw [div_mod]; have := Int.emod_nonneg m (show k ≠ 0 by omega); omega
  have h3 : n * k < (n / d + 1) * d * k := Int.mul_lt_mul_of_pos_right h1 hk
  have h4 : m / k * k * d ≤ m * d := Int.mul_le_mul_of_nonneg_right h2 (by omega)
  have h5 : (n / d + 1) * (d * k) ≤ m / k * (d * k) := Int.mul_le_mul_of_nonneg_right (by omega) (Int.le_of_lt (Int.mul_pos hd hk))
  have e1 : (n / d + 1) * d * k = (n / d + 1) * (d * k) := Int.mul_assoc _ _ _
  have e2 : m / k * k * d = m / k * (d * k) := by rw [Int.mul_assoc, Int.mul_comm k d]
  omega
theorem cmp_gt {n d m k : Int} (hd : 0 < d) (hk : 0 < k) (h : n / d > m / k) : (n * k - m * d).sign = 1 := by
  have := cmp_lt hk hd h
  have e : n * k - m * d = -(m * d - n * k) := by omega
  rw [e, Int.sign_neg, this]; rfl
theorem cmp_eq {n d m k : Int} (h : n / d = m / k) : n * k - m * d = (n - n / d * d) * k - (m - m / k * k) * d := by
  rw [Int.sub_mul, Int.sub_mul, h, Int.mul_assoc, Int.mul_assoc, Int.mul_comm k d]; omega
/-- A part of an end temperature. -/
def endD (p q r : Int) : Int := q - p - (r - q)
def endN (p q r : Int) : Int := r * (q - p - (r - q)) + (r - q) * (r - q)
theorem end_le {p q r p' q' r' : Int} (hr : r ≤ r') (hl : 0 ≤ r - q) (hl' : r - q ≤ r' - q') (hd : 0 < endD p' q' r') (hdd : endD p' q' r' ≤ endD p q r) : endN p q r * endD p' q' r' ≤ endN p' q' r' * endD p q r := by
  unfold endN endD at *
  generalize q - p - (r - q) = D at *
  generalize q' - p' - (r' - q') = D' at *
  generalize r - q = A at *
  generalize r' - q' = A' at *
  have h1 : r * (D * D') ≤ r' * (D * D') := Int.mul_le_mul_of_nonneg_right hr (Int.mul_nonneg (by omega) (by omega))
  have h2 : A * A ≤ A' * A' := Int.mul_le_mul hl' hl' hl (by omega)
  have h3 : A * A * D' ≤ A' * A' * D := Int.mul_le_mul h2 hdd (by omega) (Int.mul_nonneg (by omega) (by omega))
  have e1 : r * D * D' = r * (D * D') := Int.mul_assoc _ _ _
  have e2 : r' * D' * D = r' * (D * D') := by rw [Int.mul_assoc, Int.mul_comm D' D]
  rw [Int.add_mul, Int.add_mul]
  omega
theorem end_last {p q r : Int} (_hd : 0 < endD p q r) : r * endD p q r ≤ endN p q r * 1 := by
  unfold endN endD at *
  have := Int.mul_nonneg (a := r - q) (b := r - q)
  have h2 : 0 ≤ (r - q) * (r - q) := by
    rcases Int.le_total 0 (r - q) with h | h
    · exact Int.mul_nonneg h h
    · exact Int.mul_nonneg_of_nonpos_of_nonpos h h
  omega
theorem low_abs (n d : Int) : (lowNum n d).natAbs ≤ n.natAbs := by
  unfold lowNum
  have := Int.natAbs_ediv_le_natAbs n (Int.gcd n d : Int)
  exact this
theorem den_le {n d : Int} (hd : 0 < d) : lowDen n d ≤ d := by
  unfold lowDen
  have := Int.natAbs_ediv_le_natAbs d (Int.gcd n d : Int)
  omega
theorem sgn_facts (x : Int) : (x.sign = 0 ↔ x = 0) ∧ (x.sign = 1 ↔ 0 < x) ∧ (x.sign = -1 ↔ x < 0) ∧ (x.sign = 0 ∨ x.sign = 1 ∨ x.sign = -1) := by
  rcases Int.lt_trichotomy x 0 with h | h | h
  · rw [Int.sign_eq_neg_one_of_neg h]; omega
  · subst h; simp
  · rw [Int.sign_eq_one_of_pos h]; omega
end Go.Plain

/- Plain facts: the first index from one on at which something holds; the first maximum. -/
namespace Go.Plain
def fF (p : Int → Bool) (l : List Int) (a : Nat) : Int := if (l.drop a).any p then (a : Int) + ((l.drop a).findIdx p : Nat) else -1
theorem fF_step {p : Int → Bool} {l : List Int} {j : Nat} (h : j < l.length) : fF p l j = if p (l.getD j 0) then (j : Int) else fF p l (j + 1) := by
  unfold fF
  rw [List.drop_eq_getElem_cons h]
  have hg : l.getD j 0 = l[j] := by simp [List.getD_eq_getElem?_getD, h]
  rw [hg]
  by_cases hp : p l[j] = true
  · simp only [List.any_cons, hp, Bool.true_or, List.findIdx_cons, cond_true, if_true]
    simp
  · have hp : p l[j] = false := by simpa using hp
    simp only [List.any_cons, hp, Bool.false_or, List.findIdx_cons, cond_false, Bool.false_eq_true, if_false]
    by_cases ha : (l.drop (j + 1)).any p = true
    · rw [if_pos ha, if_pos ha]; omega
    · rw [if_neg ha, if_neg ha]
theorem fF_end (p : Int → Bool) (l : List Int) : fF p l l.length = -1 := by unfold fF; simp
theorem fF_spec {p : Int → Bool} {l : List Int} : ∀ {n a : Nat}, l.length - a = n → a ≤ l.length → (fF p l a = -1 ∧ ∀ j, a ≤ j → j < l.length → p (l.getD j 0) = false) ∨ (∃ k : Nat, fF p l a = k ∧ a ≤ k ∧ k < l.length ∧ p (l.getD k 0) = true ∧ ∀ j, a ≤ j → j < k → p (l.getD j 0) = false) := by
  intro n
  induction n with
  | zero =>
    intro a hn ha
    have : a = l.length := by omega
    subst this
    exact .inl ⟨fF_end p l, fun j h1 h2 => by omega⟩
  | succ n ih =>
    intro a hn ha
    have hlt : a < l.length := by omega
    rw [fF_step hlt]
    by_cases hp : p (l.getD a 0) = true
    · rw [if_pos hp]
      exact .inr ⟨a, rfl, Nat.le_refl _, hlt, hp, fun j h1 h2 => by omega⟩
    · rw [if_neg hp]
      have hp : p (l.getD a 0) = false := by simpa using hp
      rcases ih (a := a + 1) (by omega) (by omega) with ⟨h1, h2⟩ | ⟨k, h1, h2, h3, h4, h5⟩
      · refine .inl ⟨h1, fun j hj hj2 => ?_⟩
        by_cases e : j = a
        · subst e; exact hp
        · exact h2 j (by omega) hj2
      · refine .inr ⟨k, h1, by omega, h3, h4, fun j hj hj2 => ?_⟩
        by_cases e : j = a
        · subst e; exact hp
        · exact h5 j (by omega) hj2
theorem fF_bound (p : Int → Bool) (l : List Int) {a : Nat} (ha : a ≤ l.length) : -1 ≤ fF p l a ∧ fF p l a < l.length := by
  rcases fF_spec (p := p) rfl ha with ⟨h, _⟩ | ⟨k, h, _, h2, _⟩ <;> omega
/-- The first maximum of the first numbers. -/
def pkT (l : List Int) : Nat → Nat
  | 0 => 0
  | i + 1 => if l.getD i 0 > l.getD (pkT l i) 0 then i else pkT l i
theorem pkT_lt {l : List Int} : ∀ {i : Nat}, 0 < i → pkT l i < i
  | 1, _ => by unfold pkT; split <;> simp [pkT]
  | i + 2, _ => by
    have := pkT_lt (l := l) (i := i + 1) (by omega)
    unfold pkT; split <;> omega
theorem pkT_max {l : List Int} : ∀ {i : Nat} {j : Nat}, j < i → l.getD j 0 ≤ l.getD (pkT l i) 0
  | i + 1, j, hj => by
    unfold pkT
    by_cases e : j = i
    · subst e; split <;> omega
    · have := pkT_max (l := l) (i := i) (j := j) (by omega)
      split <;> omega
theorem pkT_first {l : List Int} : ∀ {i : Nat} {j : Nat}, j < pkT l i → l.getD j 0 < l.getD (pkT l i) 0
  | 0, j, hj => by simp [pkT] at hj
  | i + 1, j, hj => by
    unfold pkT at hj ⊢
    split
    · rename_i h
      rw [if_pos h] at hj
      have := pkT_max (l := l) (i := i) (j := j) hj
      omega
    · rename_i h
      rw [if_neg h] at hj
      exact pkT_first hj
def pk (l : List Int) : Nat := pkT l l.length
def pkV (l : List Int) : Int := l.getD (pk l) 0
end Go.Plain

/- Plain facts: intervals of fractions, cut by constraints; one by one or all at once. -/
namespace Go.Plain
abbrev Qn : Type := Int × Int
def ltQ (x y : Qn) : Prop := x.1 * y.2 < y.1 * x.2
instance (x y : Qn) : Decidable (ltQ x y) := by unfold ltQ; infer_instance
def mxQ (x y : Qn) : Qn := if ltQ x y then y else x
def mnQ (x y : Qn) : Qn := if ltQ y x then y else x
abbrev Iv : Type := Qn × Qn
def andS (s o : Iv) : Iv := (mxQ s.1 o.1, mnQ s.2 o.2)
def empS (s : Iv) : Prop := ltQ s.2 s.1
instance (s : Iv) : Decidable (empS s) := by unfold empS; infer_instance
def lowQ (n d : Int) : Qn := (lowNum n d, lowDen n d)
def nevS : Iv := ((1, 1), (0, 1))
/-- The factors f of an interval with f n at most m. -/
def amS (s : Iv) (n m : Int) : Iv := if n > 0 then (s.1, mnQ s.2 (lowQ m n)) else if n < 0 then (mxQ s.1 (lowQ (-m) (-n)), s.2) else if m < 0 then nevS else s
def atS (F : Iv) (e x y : Int) : Iv := amS (amS F (x - e) (y + e)) (-x - e) (e - y)
def limS (s : Iv) (n m : Int) : Option Iv := if n = 0 ∧ m < 0 then none else if empS (amS s n m) then none else some (amS s n m)
def stepR (s : Iv) (e x y : Int) : Option Iv := (limS s (x - e) (y + e)).bind fun s => limS s (-x - e) (e - y)
abbrev posQ (x : Qn) : Prop := 0 < x.2
abbrev posS (s : Iv) : Prop := posQ s.1 ∧ posQ s.2

theorem lt_of_le_lt {x y z : Qn} (hx : posQ x) (hy : posQ y) (hz : posQ z) (h1 : ¬ ltQ y x) (h2 : ltQ y z) : ltQ x z := by
  unfold ltQ at *
  obtain ⟨a, b⟩ := x
  obtain ⟨c, d⟩ := y
  obtain ⟨p, q⟩ := z
  simp only at *
  refine Int.lt_of_mul_lt_mul_right (a := d) ?_ (by omega)
  have e1 : a * d * q ≤ c * b * q := Int.mul_le_mul_of_nonneg_right (by omega) (by omega)
  have e2 : c * q * b < p * d * b := Int.mul_lt_mul_of_pos_right h2 hx
  rw [Int.mul_right_comm a q d, Int.mul_right_comm p b d]
  rw [Int.mul_right_comm c b q] at e1
  omega
theorem lt_of_lt_le {x y z : Qn} (hx : posQ x) (hy : posQ y) (hz : posQ z) (h1 : ltQ x y) (h2 : ¬ ltQ z y) : ltQ x z := by
  unfold ltQ at *
  obtain ⟨a, b⟩ := x
  obtain ⟨c, d⟩ := y
  obtain ⟨p, q⟩ := z
  simp only at *
  refine Int.lt_of_mul_lt_mul_right (a := d) ?_ (by omega)
  have e1 : a * d * q < c * b * q := Int.mul_lt_mul_of_pos_right h1 hz
  have e2 : c * q * b ≤ p * d * b := Int.mul_le_mul_of_nonneg_right (by omega) (by omega)
  rw [Int.mul_right_comm a q d, Int.mul_right_comm p b d]
  rw [Int.mul_right_comm c b q] at e1
  omega
theorem lt_irr (x : Qn) : ¬ ltQ x x := by unfold ltQ; omega
theorem lt_asym {x y : Qn} (h : ltQ x y) : ¬ ltQ y x := by unfold ltQ at *; omega
theorem le_trans' {x y z : Qn} (hx : posQ x) (hy : posQ y) (hz : posQ z) (h1 : ¬ ltQ y x) (h2 : ¬ ltQ z y) : ¬ ltQ z x := fun h => h2 (lt_of_lt_le hz hx hy h h1)
theorem mx_pos {x y : Qn} (hx : posQ x) (hy : posQ y) : posQ (mxQ x y) := by unfold mxQ; split <;> assumption
theorem mn_pos {x y : Qn} (hx : posQ x) (hy : posQ y) : posQ (mnQ x y) := by unfold mnQ; split <;> assumption
theorem mx_l {x y : Qn} : ¬ ltQ (mxQ x y) x := by
  unfold mxQ; split
  · rename_i h; exact lt_asym h
  · exact lt_irr x
theorem mx_r {x y : Qn} : ¬ ltQ (mxQ x y) y := by
  unfold mxQ; split
  · exact lt_irr y
  · assumption
theorem mn_l {x y : Qn} : ¬ ltQ x (mnQ x y) := by
  unfold mnQ; split
  · rename_i h; exact lt_asym h
  · exact lt_irr x
theorem mn_r {x y : Qn} : ¬ ltQ y (mnQ x y) := by
  unfold mnQ; split
  · exact lt_irr y
  · assumption
theorem mx_assoc {x y z : Qn} (hx : posQ x) (hy : posQ y) (hz : posQ z) : mxQ (mxQ x y) z = mxQ x (mxQ y z) := by
  by_cases h1 : ltQ x y
  · rw [show mxQ x y = y from if_pos h1]
    by_cases h2 : ltQ y z
    · rw [show mxQ y z = z from if_pos h2, show mxQ x z = z from if_pos (lt_of_le_lt hx hy hz (lt_asym h1) h2)]
    · rw [show mxQ y z = y from if_neg h2, show mxQ x y = y from if_pos h1]
  · rw [show mxQ x y = x from if_neg h1]
    by_cases h2 : ltQ y z
    · rw [show mxQ y z = z from if_pos h2]
    · rw [show mxQ y z = y from if_neg h2, show mxQ x y = x from if_neg h1]
      exact if_neg (fun h => h2 (lt_of_le_lt hy hx hz h1 h))
theorem mn_assoc {x y z : Qn} (hx : posQ x) (hy : posQ y) (hz : posQ z) : mnQ (mnQ x y) z = mnQ x (mnQ y z) := by
  by_cases h1 : ltQ y x
  · rw [show mnQ x y = y from if_pos h1]
    by_cases h2 : ltQ z y
    · rw [show mnQ y z = z from if_pos h2, show mnQ x z = z from if_pos (lt_of_lt_le hz hy hx h2 (lt_asym h1))]
    · rw [show mnQ y z = y from if_neg h2, show mnQ x y = y from if_pos h1]
  · rw [show mnQ x y = x from if_neg h1]
    by_cases h2 : ltQ z y
    · rw [show mnQ y z = z from if_pos h2]
    · rw [show mnQ y z = y from if_neg h2, show mnQ x y = x from if_neg h1]
      exact if_neg (fun h => h2 (lt_of_lt_le hz hx hy h h1))
theorem lowQ_pos {n d : Int} (h : 0 < d) : posQ (lowQ n d) := lowDen_pos h
theorem nev_pos : posS nevS := ⟨by decide, by decide⟩
theorem am_pos {s : Iv} {n m : Int} (h : posS s) : posS (amS s n m) := by
  unfold amS
  split
  · exact ⟨h.1, mn_pos h.2 (lowQ_pos (by omega))⟩
  · split
    · exact ⟨mx_pos h.1 (lowQ_pos (by omega)), h.2⟩
    · split
      · exact nev_pos
      · exact h
theorem and_pos {s o : Iv} (h : posS s) (k : posS o) : posS (andS s o) := ⟨mx_pos h.1 k.1, mn_pos h.2 k.2⟩
theorem at_pos {F : Iv} {e x y : Int} (h : posS F) : posS (atS F e x y) := am_pos (am_pos h)
/-- o lies within s. -/
def within (o s : Iv) : Prop := ¬ ltQ o.1 s.1 ∧ ¬ ltQ s.2 o.2
theorem within_emp {o s : Iv} (ho : posS o) (hs : posS s) (h : within o s) (he : empS s) : empS o := by
  unfold empS at *
  exact lt_of_lt_le ho.2 hs.1 ho.1 (lt_of_le_lt ho.2 hs.2 hs.1 h.2 he) h.1
theorem within_refl (s : Iv) : within s s := ⟨lt_irr _, lt_irr _⟩
theorem within_trans {a b c : Iv} (ha : posS a) (hb : posS b) (hc : posS c) (h : within a b) (k : within b c) : within a c :=
  ⟨le_trans' hc.1 hb.1 ha.1 k.1 h.1, le_trans' ha.2 hb.2 hc.2 h.2 k.2⟩
theorem and_within_l (s o : Iv) : within (andS s o) s := ⟨mx_l, mn_l⟩
theorem and_within_r (s o : Iv) : within (andS s o) o := ⟨mx_r, mn_r⟩
theorem am_within {s : Iv} {n m : Int} (h : ¬ (n = 0 ∧ m < 0)) : within (amS s n m) s := by
  unfold amS
  split
  · exact ⟨lt_irr _, mn_l⟩
  · split
    · exact ⟨mx_l, lt_irr _⟩
    · rw [if_neg (by omega)]; exact within_refl s
theorem am_emp {s : Iv} {n m : Int} (hp : posS s) (h : empS s) : empS (amS s n m) := by
  by_cases k : n = 0 ∧ m < 0
  · unfold amS; rw [if_neg (by omega), if_neg (by omega), if_pos k.2]; decide
  · exact within_emp (am_pos hp) hp (am_within k) h
theorem and_self_of {s F : Iv} (h : within s F) : andS s F = s := by
  unfold andS mxQ mnQ
  rw [if_neg h.1, if_neg h.2]
theorem am_and {s F : Iv} {n m : Int} (hs : posS s) (hF : posS F) (h : ¬ (n = 0 ∧ m < 0)) : amS (andS s F) n m = andS s (amS F n m) := by
  unfold amS
  by_cases h1 : n > 0
  · rw [if_pos h1, if_pos h1]
    unfold andS
    rw [mn_assoc hs.2 hF.2 (lowQ_pos (by omega))]
  · rw [if_neg h1, if_neg h1]
    by_cases h2 : n < 0
    · rw [if_pos h2, if_pos h2]
      unfold andS
      rw [mx_assoc hs.1 hF.1 (lowQ_pos (by omega))]
    · rw [if_neg h2, if_neg h2, if_neg (by omega), if_neg (by omega)]
theorem step_eq {s F : Iv} {e x y : Int} (hs : posS s) (hF : posS F) (hw : within s F) (_hne : ¬ empS s) :
    (∃ o, stepR s e x y = some o ∧ andS s (atS F e x y) = o ∧ ¬ empS o ∧ within o s) ∨ (stepR s e x y = none ∧ empS (andS s (atS F e x y))) := by
  unfold stepR atS
  by_cases k1 : x - e = 0 ∧ y + e < 0
  · right
    have hn : empS (amS F (x - e) (y + e)) := by unfold amS; rw [if_neg (by omega), if_neg (by omega), if_pos k1.2]; decide
    have hp := am_pos (n := x - e) (m := y + e) hF
    refine ⟨by unfold limS; rw [if_pos k1]; (first | done | rfl), within_emp (and_pos hs (am_pos hp)) (am_pos hp) (and_within_r _ _) (am_emp hp hn)⟩
  · have e1 : andS s (amS F (x - e) (y + e)) = amS s (x - e) (y + e) := by rw [← am_and hs hF k1, and_self_of hw]
    have hp1 := am_pos (n := x - e) (m := y + e) hs
    have hpF := am_pos (n := x - e) (m := y + e) hF
    have w1 : within (amS s (x - e) (y + e)) s := am_within k1
    by_cases k2 : -x - e = 0 ∧ e - y < 0
    · right
      have hn : empS (amS (amS F (x - e) (y + e)) (-x - e) (e - y)) := by
        generalize amS F (x - e) (y + e) = G
        unfold amS; rw [if_neg (by omega), if_neg (by omega), if_pos k2.2]; decide
      refine ⟨?_, within_emp (and_pos hs (am_pos hpF)) (am_pos hpF) (and_within_r _ _) hn⟩
      unfold limS
      rw [if_neg k1]
      split
      · rfl
      · simp only [Option.bind_some]
    · have e2 : andS s (amS (amS F (x - e) (y + e)) (-x - e) (e - y)) = amS (amS s (x - e) (y + e)) (-x - e) (e - y) := by rw [← am_and hs hpF k2, e1]
      rw [e2]
      have hp2 := am_pos (n := -x - e) (m := e - y) hp1
      have w2 : within (amS (amS s (x - e) (y + e)) (-x - e) (e - y)) (amS s (x - e) (y + e)) := am_within k2
      unfold limS
      rw [if_neg k1]
      by_cases h1 : empS (amS s (x - e) (y + e))
      · right
        rw [if_pos h1]
        exact ⟨rfl, am_emp hp1 h1⟩
      · rw [if_neg h1]
        simp only [Option.bind_some]
        rw [if_neg k2]
        by_cases h2 : empS (amS (amS s (x - e) (y + e)) (-x - e) (e - y))
        · right; rw [if_pos h2]; exact ⟨rfl, h2⟩
        · left
          rw [if_neg h2]
          exact ⟨_, rfl, rfl, h2, within_trans hp2 hp1 hs w2 w1⟩
/-- All at once. -/
def allS (F : Iv) (e : Int) : List (Int × Int) → Iv → Iv
  | [], s => s
  | p :: l, s => allS F e l (andS s (atS F e p.1 p.2))
/-- One by one. -/
def oneS (e : Int) : List (Int × Int) → Option Iv → Option Iv
  | [], s => s
  | p :: l, s => oneS e l (s.bind fun s => stepR s e p.1 p.2)
theorem one_none (e : Int) : ∀ l, oneS e l none = none
  | [] => rfl
  | _ :: l => one_none e l
theorem all_within {F : Iv} {e : Int} (hF : posS F) : ∀ (l : List (Int × Int)) {s : Iv}, posS s → within (allS F e l s) s ∧ posS (allS F e l s)
  | [], _, hs => ⟨within_refl _, hs⟩
  | p :: l, s, hs => by
    have hp := and_pos hs (at_pos (e := e) (x := p.1) (y := p.2) hF)
    obtain ⟨h1, h2⟩ := all_within hF l hp
    exact ⟨within_trans h2 hp hs h1 (and_within_l _ _), h2⟩
theorem all_one {F : Iv} {e : Int} (hF : posS F) : ∀ (l : List (Int × Int)) {s : Iv}, posS s → within s F → ¬ empS s → (∃ o, oneS e l (some s) = some o ∧ allS F e l s = o ∧ ¬ empS o) ∨ (oneS e l (some s) = none ∧ empS (allS F e l s))
  | [], s, _, _, hne => .inl ⟨s, rfl, rfl, hne⟩
  | p :: l, s, hs, hw, hne => by
    have hp := and_pos hs (at_pos (e := e) (x := p.1) (y := p.2) hF)
    rcases step_eq (e := e) (x := p.1) (y := p.2) hs hF hw hne with ⟨o, h1, h2, h3, h4⟩ | ⟨h1, h2⟩
    · rw [h2] at hp
      have := all_one (e := e) hF l hp (within_trans hp hs hF h4 hw) h3
      simp only [oneS, allS, Option.bind_some, h1, h2]
      exact this
    · right
      simp only [oneS, allS, Option.bind_some, h1]
      obtain ⟨w, hp2⟩ := all_within (e := e) hF l hp
      exact ⟨one_none e l, within_emp hp2 hp w h2⟩
end Go.Plain

/- Plain facts: intervals with a common factor; of intervals without one there are two without one. -/
namespace Go.Plain
theorem allS_lo {F : Iv} {e : Int} : ∀ (l : List (Int × Int)) (s : Iv), (allS F e l s).1 = s.1 ∨ ∃ p ∈ l, (allS F e l s).1 = (atS F e p.1 p.2).1
  | [], _ => .inl rfl
  | p :: l, s => by
    rcases allS_lo l (andS s (atS F e p.1 p.2)) with h | ⟨q, hq, h⟩
    · have : (andS s (atS F e p.1 p.2)).1 = s.1 ∨ (andS s (atS F e p.1 p.2)).1 = (atS F e p.1 p.2).1 := by
        unfold andS mxQ; dsimp only; split
        · exact .inr rfl
        · exact .inl rfl
      rcases this with g | g
      · exact .inl (h.trans g)
      · exact .inr ⟨p, List.mem_cons_self .., h.trans g⟩
    · exact .inr ⟨q, List.mem_cons_of_mem _ hq, h⟩
theorem allS_hi {F : Iv} {e : Int} : ∀ (l : List (Int × Int)) (s : Iv), (allS F e l s).2 = s.2 ∨ ∃ p ∈ l, (allS F e l s).2 = (atS F e p.1 p.2).2
  | [], _ => .inl rfl
  | p :: l, s => by
    rcases allS_hi l (andS s (atS F e p.1 p.2)) with h | ⟨q, hq, h⟩
    · have : (andS s (atS F e p.1 p.2)).2 = s.2 ∨ (andS s (atS F e p.1 p.2)).2 = (atS F e p.1 p.2).2 := by
        unfold andS mnQ; dsimp only; split
        · exact .inr rfl
        · exact .inl rfl
      rcases this with g | g
      · exact .inl (h.trans g)
      · exact .inr ⟨p, List.mem_cons_self .., h.trans g⟩
    · exact .inr ⟨q, List.mem_cons_of_mem _ hq, h⟩
theorem emp_of {o : Iv} {a b : Qn} (ho : posS o) (ha : posQ a) (hb : posQ b) (h1 : ¬ ltQ o.1 a) (h2 : ¬ ltQ b o.2) (h : ltQ b a) : empS o :=
  lt_of_lt_le ho.2 ha ho.1 (lt_of_le_lt ho.2 hb ha h2 h) h1
/-- A number in an interval. -/
def inS (x : Qn) (s : Iv) : Prop := ¬ ltQ x s.1 ∧ ¬ ltQ s.2 x
theorem inS_ne {x : Qn} {s : Iv} (hx : posQ x) (hs : posS s) (h : inS x s) : ¬ empS s := fun he => h.1 (lt_of_le_lt hx hs.2 hs.1 h.2 he)
theorem inS_and {x : Qn} {s o : Iv} (h : inS x s) (k : inS x o) : inS x (andS s o) := by
  unfold andS mxQ mnQ
  refine ⟨?_, ?_⟩
  · dsimp only; split
    · exact k.1
    · exact h.1
  · dsimp only; split
    · exact k.2
    · exact h.2
theorem inS_am {k n m : Int} {s : Iv} (h : inS (k, 1) s) (hm : k * n ≤ m) : inS (k, 1) (amS s n m) := by
  unfold amS
  split
  · rename_i hn
    refine ⟨h.1, ?_⟩
    unfold mnQ
    split
    · -- k is at most m / n
      have e1 := low_num_eq m n
      have e2 := low_den_eq m n
      have hg : (0 : Int) < Int.gcd m n := by
        have := Int.gcd_pos_of_ne_zero_right m (show n ≠ 0 by omega); omega
      show ¬ lowNum m n * 1 < k * lowDen m n
      rw [Int.mul_one]
      intro hlt
      have := Int.mul_lt_mul_of_pos_left hlt hg
      rw [← e1, Int.mul_left_comm, ← e2] at this
      omega
    · exact h.2
  · split
    · rename_i hn
      refine ⟨?_, h.2⟩
      unfold mxQ
      split
      · have e1 := low_num_eq (-m) (-n)
        have e2 := low_den_eq (-m) (-n)
        have hg : (0 : Int) < Int.gcd (-m) (-n) := by
          have := Int.gcd_pos_of_ne_zero_right (-m) (show -n ≠ 0 by omega); omega
        show ¬ k * lowDen (-m) (-n) < lowNum (-m) (-n) * 1
        rw [Int.mul_one]
        intro hlt
        have := Int.mul_lt_mul_of_pos_left hlt hg
        rw [← e1, Int.mul_left_comm, ← e2, Int.mul_neg] at this
        omega
      · exact h.1
    · split
      · exfalso
        obtain rfl : n = 0 := by omega
        rw [Int.mul_zero] at hm
        omega
      · exact h
theorem inS_at {k e x y : Int} {F : Iv} (h : inS (k, 1) F) (h1 : k * (x - e) ≤ y + e) (h2 : k * (-x - e) ≤ e - y) : inS (k, 1) (atS F e x y) := inS_am (inS_am h h1) h2
theorem inS_all {k e : Int} {F : Iv} (hF : inS (k, 1) F) : ∀ (l : List (Int × Int)) (s : Iv), inS (k, 1) s → (∀ p ∈ l, k * (p.1 - e) ≤ p.2 + e ∧ k * (-p.1 - e) ≤ e - p.2) → inS (k, 1) (allS F e l s)
  | [], _, h, _ => h
  | p :: l, _, h, hp => inS_all hF l _ (inS_and h (inS_at hF (hp p (List.mem_cons_self ..)).1 (hp p (List.mem_cons_self ..)).2)) fun p hq => hp p (List.mem_cons_of_mem _ hq)
end Go.Plain

/- Plain facts on digits to the base 10^9, the lowest one first. -/
namespace Go.Plain
def dval : List Int → Int
  | [] => 0
  | x :: l => x + 1000000000 * dval l
def Dg (l : List Int) : Prop := ∀ x ∈ l, 0 ≤ x ∧ x < 1000000000
def digs (n : Nat) : List Int := if h : n = 0 then [] else ((n % 1000000000 : Nat) : Int) :: digs (n / 1000000000)
termination_by n
decreasing_by exact Nat.div_lt_self (by omega) (by decide)
theorem digs_zero : digs 0 = [] := by unfold digs; simp
theorem digs_pos {n : Nat} (h : n ≠ 0) : digs n = ((n % 1000000000 : Nat) : Int) :: digs (n / 1000000000) := by
  conv => lhs; unfold digs
  rw [dif_neg h]
abbrev pw (n : Nat) : Int := (1000000000 : Int) ^ n
theorem pw_zero : pw 0 = 1 := rfl
theorem pw_succ (n : Nat) : pw (n + 1) = pw n * 1000000000 := Int.pow_succ _ _
theorem pw_pos (n : Nat) : 0 < pw n := Int.pow_pos (by decide)
theorem dval_digs (n : Nat) : dval (digs n) = n := by
  induction n using Nat.strongRecOn with
  | _ n ih =>
    by_cases h : n = 0
    · subst h; rw [digs_zero]; rfl
    · rw [digs_pos h]
      unfold dval
      rw [ih _ (Nat.div_lt_self (by omega) (by decide))]
      omega
theorem dg_digs (n : Nat) : Dg (digs n) := by
  induction n using Nat.strongRecOn with
  | _ n ih =>
    by_cases h : n = 0
    · subst h; rw [digs_zero]; intro x hx; simp at hx
    · rw [digs_pos h]
      intro x hx
      rcases List.mem_cons.1 hx with rfl | hx
      · omega
      · exact ih _ (Nat.div_lt_self (by omega) (by decide)) x hx
theorem dg_nil : Dg [] := by intro x hx; simp at hx
theorem Dg.tail {x : Int} {l : List Int} (h : Dg (x :: l)) : Dg l := fun y hy => h y (List.mem_cons_of_mem _ hy)
theorem Dg.take {l : List Int} (h : Dg l) (n : Nat) : Dg (l.take n) := fun y hy => h y (List.mem_of_mem_take hy)
theorem Dg.drop {l : List Int} (h : Dg l) (n : Nat) : Dg (l.drop n) := fun y hy => h y (List.mem_of_mem_drop hy)
theorem Dg.get {l : List Int} (h : Dg l) (i : Nat) : 0 ≤ l.getD i 0 ∧ l.getD i 0 < 1000000000 := by
  by_cases hi : i < l.length
  · exact h _ (getD_mem hi)
  · simp [List.getD_eq_getElem?_getD, List.getElem?_eq_none (by omega : l.length ≤ i)]
theorem dval_nonneg {l : List Int} (h : Dg l) : 0 ≤ dval l := by
  induction l with
  | nil => simp [dval]
  | cons x l ih =>
    have := h x List.mem_cons_self
    have := ih h.tail
    unfold dval; omega
theorem dval_append (l l' : List Int) : dval (l ++ l') = dval l + pw l.length * dval l' := by
  induction l with
  | nil => simp [dval, pw]
  | cons x l ih =>
    simp only [List.cons_append, dval, ih, List.length_cons, pw_succ]
    rw [Int.mul_add, Int.mul_comm (pw l.length) 1000000000, Int.mul_assoc]
    omega
theorem dval_snoc (l : List Int) (x : Int) : dval (l ++ [x]) = dval l + pw l.length * x := by rw [dval_append]; simp [dval]
theorem dval_lt {l : List Int} (h : Dg l) : dval l < pw l.length := by
  induction l with
  | nil => simp [dval, pw]
  | cons x l ih =>
    have h1 := h x List.mem_cons_self
    have h2 := ih h.tail
    rw [List.length_cons, pw_succ]
    unfold dval; omega
theorem dval_take_succ {l : List Int} {n : Nat} (h : n < l.length) : dval (l.take (n + 1)) = dval (l.take n) + pw n * l.getD n 0 := by
  rw [take_snoc (d := 0) h, dval_snoc]
  have : (l.take n).length = n := by simp; omega
  rw [this]
theorem dval_split (l : List Int) (n : Nat) (h : n ≤ l.length) : dval l = dval (l.take n) + pw n * dval (l.drop n) := by
  have := dval_append (l.take n) (l.drop n)
  rw [List.take_append_drop] at this
  rw [this]
  have e : (l.take n).length = n := by simp; omega
  rw [e]
/-- Without zeros at the end. -/
def Canon (l : List Int) : Prop := Dg l ∧ (l = [] ∨ l.getD (l.length - 1) 0 ≠ 0)
theorem Canon.tail {x : Int} {l : List Int} (h : Canon (x :: l)) (hl : l ≠ []) : Canon l := by
  refine ⟨h.1.tail, .inr ?_⟩
  rcases h.2 with h2 | h2
  · cases h2
  · have : 0 < l.length := List.length_pos_iff.2 hl
    have e : (x :: l).length - 1 = (l.length - 1) + 1 := by simp; omega
    rw [e] at h2
    simpa [List.getD_eq_getElem?_getD] using h2
theorem canon_pos {l : List Int} (h : Canon l) (hl : l ≠ []) : 0 < dval l := by
  induction l with
  | nil => exact absurd rfl hl
  | cons x l ih =>
    have h1 := h.1 x List.mem_cons_self
    by_cases he : l = []
    · subst he
      rcases h.2 with h2 | h2
      · cases h2
      · simp at h2; unfold dval; simp [dval]; omega
    · have := ih (h.tail he) he
      unfold dval; omega
theorem canon_eq {l : List Int} (h : Canon l) : l = digs (dval l).toNat := by
  induction l with
  | nil => simp [dval, digs_zero]
  | cons x l ih =>
    have h1 := h.1 x List.mem_cons_self
    have hp := canon_pos h (by simp)
    have h0 := dval_nonneg h.1.tail
    have hn : (dval (x :: l)).toNat ≠ 0 := by omega
    rw [digs_pos hn]
    have ed : dval (x :: l) = x + 1000000000 * dval l := rfl
    have e1 : (((dval (x :: l)).toNat % 1000000000 : Nat) : Int) = x := by omega
    have e2 : (dval (x :: l)).toNat / 1000000000 = (dval l).toNat := by omega
    rw [e1, e2]
    by_cases he : l = []
    · subst he; simp [dval, digs_zero]
    · rw [← ih (h.tail he)]
theorem canon_digs (n : Nat) : Canon (digs n) := by
  refine ⟨dg_digs n, ?_⟩
  induction n using Nat.strongRecOn with
  | _ n ih =>
    by_cases h : n = 0
    · subst h; left; exact digs_zero
    · right
      rw [digs_pos h]
      by_cases h2 : n / 1000000000 = 0
      · rw [h2, digs_zero]
        simp; omega
      · have := ih _ (Nat.div_lt_self (Nat.pos_of_ne_zero h) (show 1 < 1000000000 by decide))
        rcases this with h3 | h3
        · rw [digs_pos h2] at h3; cases h3
        · have hl : 0 < (digs (n / 1000000000)).length := by rw [digs_pos h2]; simp
          have e : (((n % 1000000000 : Nat) : Int) :: digs (n / 1000000000)).length - 1 = ((digs (n / 1000000000)).length - 1) + 1 := by simp; omega
          rw [e]
          simpa [List.getD_eq_getElem?_getD] using h3
/-- Where the zeros at the end begin. -/
def trimN (l : List Int) : Nat → Nat
  | 0 => 0
  | n + 1 => if l.getD n 0 = 0 then trimN l n else n + 1
theorem trimN_le (l : List Int) : ∀ n, trimN l n ≤ n
  | 0 => by simp [trimN]
  | n + 1 => by have := trimN_le l n; unfold trimN; split <;> omega
def trim (l : List Int) : List Int := l.take (trimN l l.length)
theorem dval_trimN {l : List Int} : ∀ {n : Nat}, n ≤ l.length → dval (l.take (trimN l n)) = dval (l.take n)
  | 0, _ => rfl
  | n + 1, h => by
    unfold trimN
    split
    · rename_i h0
      rw [dval_trimN (n := n) (by omega), dval_take_succ (by omega), h0]; simp
    · rfl
theorem trimN_last {l : List Int} : ∀ {n : Nat}, trimN l n = 0 ∨ l.getD (trimN l n - 1) 0 ≠ 0
  | 0 => .inl rfl
  | n + 1 => by
    unfold trimN
    split
    · exact trimN_last (n := n)
    · rename_i h; exact .inr h
theorem trim_eq {l : List Int} (h : Dg l) : trim l = digs (dval l).toNat := by
  have h1 : dval (trim l) = dval l := by unfold trim; rw [dval_trimN (Nat.le_refl _), List.take_length]
  have h2 : Canon (trim l) := by
    refine ⟨h.take _, ?_⟩
    have hle := trimN_le l l.length
    unfold trim
    rcases trimN_last (l := l) (n := l.length) with h3 | h3
    · left; rw [h3]; simp
    · by_cases h0 : trimN l l.length = 0
      · left; rw [h0]; simp
      · right
        have e : (l.take (trimN l l.length)).length = trimN l l.length := by simp; omega
        rw [e]
        have : (l.take (trimN l l.length)).getD (trimN l l.length - 1) 0 = l.getD (trimN l l.length - 1) 0 := by
          simp [List.getD_eq_getElem?_getD, show trimN l l.length - 1 < trimN l l.length by omega]
        rw [this]; exact h3
  rw [← h1]; exact canon_eq h2
theorem trim_len_le (l : List Int) : (trim l).length ≤ l.length := by unfold trim; simp; omega
theorem digs_len_le {n k : Nat} (h : (n : Int) < pw k) : (digs n).length ≤ k := by
  induction k generalizing n with
  | zero =>
    have : n = 0 := by simp [pw] at h; omega
    subst this; rw [digs_zero]; simp
  | succ k ih =>
    by_cases h0 : n = 0
    · subst h0; rw [digs_zero]; simp
    · rw [digs_pos h0]
      rw [pw_succ] at h
      have := ih (n := n / 1000000000) (by omega)
      simp; omega
theorem digs_nil {n : Nat} : digs n = [] ↔ n = 0 := by
  constructor
  · intro h
    apply Classical.byContradiction
    intro h0
    rw [digs_pos h0] at h; cases h
  · rintro rfl; exact digs_zero
end Go.Plain

namespace Go.Plain
theorem dval_take_succ' (l : List Int) (n : Nat) : dval (l.take (n + 1)) = dval (l.take n) + pw n * l.getD n 0 := by
  by_cases h : n < l.length
  · exact dval_take_succ h
  · rw [List.take_of_length_le (by omega), List.take_of_length_le (by omega)]
    simp [List.getD_eq_getElem?_getD, List.getElem?_eq_none (by omega : l.length ≤ n)]
theorem pw_mono {m n : Nat} (h : m ≤ n) : pw m ≤ pw n := by
  induction n with
  | zero => have : m = 0 := by omega
            subst this; exact Int.le_refl _
  | succ n ih =>
    by_cases e : m = n + 1
    · subst e; exact Int.le_refl _
    · have h1 := ih (by omega)
      have h2 := pw_pos n
      rw [pw_succ]; omega
def cmpN (x y : Nat) : Int := if x < y then -1 else if y < x then 1 else 0
theorem canon_ge {l : List Int} (h : Canon l) (hl : l ≠ []) : pw (l.length - 1) ≤ dval l := by
  have hpos : 0 < l.length := List.length_pos_iff.2 hl
  have h1 := dval_split l (l.length - 1) (by omega)
  have h2 : l.drop (l.length - 1) = [l.getD (l.length - 1) 0] := by
    rw [find_drop (d := 0) (by omega), show l.length - 1 + 1 = l.length by omega, List.drop_length]
  rw [h2] at h1
  have h3 : l.getD (l.length - 1) 0 ≠ 0 := by
    rcases h.2 with h3 | h3
    · exact absurd h3 hl
    · exact h3
  have h4 := h.1.get (l.length - 1)
  have h5 := dval_nonneg (h.1.take (l.length - 1))
  have h6 := pw_pos (l.length - 1)
  have h7 : pw (l.length - 1) * 1 ≤ pw (l.length - 1) * l.getD (l.length - 1) 0 := Int.mul_le_mul_of_nonneg_left (by omega) (by omega)
  simp only [dval] at h1
  simp only [Int.mul_zero, Int.add_zero] at h1
  omega
theorem len_lt {a b : List Int} (ha : Canon a) (hb : Canon b) (h : a.length < b.length) : dval a < dval b := by
  have h1 := dval_lt ha.1
  have h2 := canon_ge hb (by intro e; subst e; simp at h)
  have h3 := pw_mono (show a.length ≤ b.length - 1 by omega)
  omega
theorem top_lt {a b : List Int} (ha : Dg a) (hb : Dg b) {i : Nat} (h : a.length = b.length) (hi : i < a.length) (ht : a.drop (i + 1) = b.drop (i + 1)) (hlt : a.getD i 0 < b.getD i 0) : dval a < dval b := by
  have h1 := dval_split a i (by omega)
  have h2 := dval_split b i (by omega)
  rw [find_drop (d := 0) hi] at h1
  rw [find_drop (d := 0) (show i < b.length by omega)] at h2
  rw [ht] at h1
  simp only [dval] at h1 h2
  generalize dval (List.drop (i + 1) b) = z at *
  have h3 := dval_lt (ha.take i)
  have e : (a.take i).length = i := by simp; omega
  rw [e] at h3
  have h4 := dval_nonneg (hb.take i)
  have h5 := pw_pos i
  have h6 : pw i * (a.getD i 0 + 1 + 1000000000 * z) ≤ pw i * (b.getD i 0 + 1000000000 * z) := Int.mul_le_mul_of_nonneg_left (by omega) (by omega)
  have h7 : pw i * (a.getD i 0 + 1 + 1000000000 * z) = pw i * (a.getD i 0 + 1000000000 * z) + pw i := by
    rw [show a.getD i 0 + 1 + 1000000000 * z = (a.getD i 0 + 1000000000 * z) + 1 by omega, Int.mul_add, Int.mul_one]
  omega
/-- Sums, digit by digit. -/
def addC (a b : List Int) : Nat → Int
  | 0 => 0
  | i + 1 => (a.getD i 0 + b.getD i 0 + addC a b i) / 1000000000
def addD (a b : List Int) (i : Nat) : Int := (a.getD i 0 + b.getD i 0 + addC a b i) % 1000000000
theorem addC_bound {a b : List Int} (ha : Dg a) (hb : Dg b) : ∀ i, 0 ≤ addC a b i ∧ addC a b i ≤ 1
  | 0 => by simp [addC]
  | i + 1 => by
    have h1 := addC_bound ha hb i
    have h2 := ha.get i
    have h3 := hb.get i
    unfold addC; omega
def addL (a b : List Int) (n : Nat) : List Int := (List.range n).map (addD a b)
theorem addL_succ (a b : List Int) (n : Nat) : addL a b (n + 1) = addL a b n ++ [addD a b n] := rangeMap_succ
theorem addL_len (a b : List Int) (n : Nat) : (addL a b n).length = n := by simp [addL]
theorem addL_dg {a b : List Int} (n : Nat) : Dg (addL a b n) := by
  intro x hx
  obtain ⟨k, _, rfl⟩ := List.mem_map.1 hx
  unfold addD; omega
theorem addL_val (a b : List Int) : ∀ n, dval (addL a b n) + pw n * addC a b n = dval (a.take n) + dval (b.take n)
  | 0 => by simp [addL, dval, addC]
  | n + 1 => by
    have h := addL_val a b n
    rw [addL_succ, dval_snoc, addL_len, dval_take_succ', dval_take_succ', pw_succ]
    have e : a.getD n 0 + b.getD n 0 + addC a b n = addD a b n + 1000000000 * addC a b (n + 1) := by
      unfold addD
      rw [show addC a b (n + 1) = (a.getD n 0 + b.getD n 0 + addC a b n) / 1000000000 from rfl]
      omega
    have e2 : pw n * (a.getD n 0 + b.getD n 0 + addC a b n) = pw n * (addD a b n + 1000000000 * addC a b (n + 1)) := by rw [e]
    rw [Int.mul_add, Int.mul_add, Int.mul_add, ← Int.mul_assoc (pw n) 1000000000] at e2
    omega
/-- Where the sum ends. -/
def addN (a b : List Int) : Nat := max a.length b.length + (if addC a b (max a.length b.length) > 0 then 1 else 0)
theorem addN_cond {a b : List Int} (ha : Dg a) (hb : Dg b) {i : Nat} (hi : i ≤ addN a b) : (i < a.length ∨ i < b.length ∨ addC a b i > 0) ↔ i < addN a b := by
  have hb1 := addC_bound ha hb (max a.length b.length)
  unfold addN at hi ⊢
  by_cases h : i < max a.length b.length
  · have : i < a.length ∨ i < b.length := by omega
    constructor
    · intro _; omega
    · intro _; rcases this with h | h
      · exact .inl h
      · exact .inr (.inl h)
  · by_cases hm : i = max a.length b.length
    · subst hm
      split at hi <;> rename_i hc
      · rw [if_pos hc]
        exact ⟨fun _ => by omega, fun _ => .inr (.inr hc)⟩
      · rw [if_neg hc]
        exact ⟨fun h => by rcases h with h | h | h <;> omega, fun h => by omega⟩
    · split at hi <;> rename_i hc
      · have hi2 : i = max a.length b.length + 1 := by omega
        have e1 : a.getD (max a.length b.length) 0 = 0 := by simp [List.getD_eq_getElem?_getD, List.getElem?_eq_none (by omega : a.length ≤ max a.length b.length)]
        have e2 : b.getD (max a.length b.length) 0 = 0 := by simp [List.getD_eq_getElem?_getD, List.getElem?_eq_none (by omega : b.length ≤ max a.length b.length)]
        have e3 : addC a b i = 0 := by
          rw [hi2]
          show (a.getD (max a.length b.length) 0 + b.getD (max a.length b.length) 0 + addC a b (max a.length b.length)) / 1000000000 = 0
          rw [e1, e2]; omega
        rw [if_pos hc, e3]
        exact ⟨fun h => by rcases h with h | h | h <;> omega, fun h => by omega⟩
      · omega
theorem addN_end {a b : List Int} (ha : Dg a) (hb : Dg b) : dval (addL a b (addN a b)) = dval a + dval b := by
  have h1 := addL_val a b (addN a b)
  have h2 := (addN_cond ha hb (Nat.le_refl _)).1
  have h3 := addC_bound ha hb (addN a b)
  have h4 : addC a b (addN a b) = 0 := by
    apply Classical.byContradiction
    intro h
    have := h2 (.inr (.inr (by omega)))
    omega
  rw [h4, Int.mul_zero, Int.add_zero] at h1
  rw [List.take_of_length_le (by unfold addN; omega), List.take_of_length_le (by unfold addN; omega)] at h1
  exact h1
/-- Differences, digit by digit. -/
def sbB (a b : List Int) : Nat → Int
  | 0 => 0
  | i + 1 => if a.getD i 0 - b.getD i 0 - sbB a b i < 0 then 1 else 0
def sbD (a b : List Int) (i : Nat) : Int := if a.getD i 0 - b.getD i 0 - sbB a b i < 0 then a.getD i 0 - b.getD i 0 - sbB a b i + 1000000000 else a.getD i 0 - b.getD i 0 - sbB a b i
theorem sbB_bound (a b : List Int) : ∀ i, 0 ≤ sbB a b i ∧ sbB a b i ≤ 1
  | 0 => by simp [sbB]
  | i + 1 => by unfold sbB; split <;> omega
def sbL (a b : List Int) (n : Nat) : List Int := (List.range n).map (sbD a b)
theorem sbL_succ (a b : List Int) (n : Nat) : sbL a b (n + 1) = sbL a b n ++ [sbD a b n] := rangeMap_succ
theorem sbL_len (a b : List Int) (n : Nat) : (sbL a b n).length = n := by simp [sbL]
theorem sbL_dg {a b : List Int} (ha : Dg a) (hb : Dg b) (n : Nat) : Dg (sbL a b n) := by
  intro x hx
  obtain ⟨k, _, rfl⟩ := List.mem_map.1 hx
  have := ha.get k
  have := hb.get k
  have := sbB_bound a b k
  unfold sbD; split <;> omega
theorem sbL_val (a b : List Int) : ∀ n, dval (sbL a b n) = dval (a.take n) - dval (b.take n) + pw n * sbB a b n
  | 0 => by simp [sbL, dval, sbB]
  | n + 1 => by
    have h := sbL_val a b n
    rw [sbL_succ, dval_snoc, sbL_len, dval_take_succ', dval_take_succ', pw_succ, h]
    have e : sbD a b n = a.getD n 0 - b.getD n 0 - sbB a b n + 1000000000 * sbB a b (n + 1) := by
      unfold sbD
      rw [show sbB a b (n + 1) = if a.getD n 0 - b.getD n 0 - sbB a b n < 0 then 1 else 0 from rfl]
      split <;> omega
    rw [e, Int.mul_add, Int.mul_sub, Int.mul_sub, Int.mul_assoc (pw n)]
    omega
theorem sbL_end {a b : List Int} (ha : Dg a) (hb : Dg b) (hl : b.length ≤ a.length) (h : dval b ≤ dval a) : dval (sbL a b a.length) = dval a - dval b := by
  have h1 := sbL_val a b a.length
  rw [List.take_length, List.take_of_length_le hl] at h1
  have h2 := dval_lt (sbL_dg ha hb a.length)
  rw [sbL_len] at h2
  have h3 := sbB_bound a b a.length
  have h4 : sbB a b a.length = 0 ∨ sbB a b a.length = 1 := by omega
  rcases h4 with h4 | h4
  · rw [h4] at h1; simpa using h1
  · rw [h4] at h1; omega
theorem digs_len_mono {x y : Nat} (h : y ≤ x) : (digs y).length ≤ (digs x).length := by
  apply Classical.byContradiction
  intro hh
  have := len_lt (canon_digs x) (canon_digs y) (by omega)
  rw [dval_digs, dval_digs] at this
  omega
end Go.Plain

namespace Go.Plain
theorem dval_set {l : List Int} {j : Nat} (h : j < l.length) (v : Int) : dval (l.set j v) = dval l + pw j * (v - l.getD j 0) := by
  induction l generalizing j with
  | nil => simp at h
  | cons x l ih =>
    cases j with
    | zero => simp [dval, pw]; omega
    | succ j =>
      have := ih (j := j) (by simpa using h)
      simp only [List.set_cons_succ, dval, this, pw_succ, List.getD_cons_succ]
      rw [Int.mul_add, Int.mul_comm (pw j) 1000000000, Int.mul_assoc]
      omega
theorem getD_set_same {l : List Int} {j : Nat} (h : j < l.length) (v : Int) : (l.set j v).getD j 0 = v := by simp [List.getD_eq_getElem?_getD, h]
theorem getD_set_ne {l : List Int} {i j : Nat} (h : i ≠ j) (v : Int) : (l.set i v).getD j 0 = l.getD j 0 := by simp [List.getD_eq_getElem?_getD, List.getElem?_set_ne h]
theorem dg_set {l : List Int} (h : Dg l) (j : Nat) {v : Int} (hv : 0 ≤ v ∧ v < 1000000000) : Dg (l.set j v) := by
  intro x hx
  rcases List.mem_or_eq_of_mem_set hx with hx | rfl
  · exact h x hx
  · exact hv
/-- One row of a product. -/
def mulIn (out : List Int) (i : Nat) (x : Int) (b : List Int) : Nat → List Int × Int
  | 0 => (out, 0)
  | k + 1 => ((mulIn out i x b k).1.set (i + k) (((mulIn out i x b k).1.getD (i + k) 0 + x * b.getD k 0 + (mulIn out i x b k).2) % 1000000000),
      ((mulIn out i x b k).1.getD (i + k) 0 + x * b.getD k 0 + (mulIn out i x b k).2) / 1000000000)
def mulRow (out : List Int) (i : Nat) (x : Int) (b : List Int) : List Int :=
  (mulIn out i x b b.length).1.set (i + b.length) ((mulIn out i x b b.length).1.getD (i + b.length) 0 + (mulIn out i x b b.length).2)
def mulOut (a b : List Int) : Nat → List Int
  | 0 => List.replicate (a.length + b.length + 1) 0
  | i + 1 => mulRow (mulOut a b i) i (a.getD i 0) b
theorem mulIn_len (out : List Int) (i : Nat) (x : Int) (b : List Int) : ∀ k, (mulIn out i x b k).1.length = out.length
  | 0 => rfl
  | k + 1 => by simp [mulIn, mulIn_len out i x b k]
theorem mulOut_len (a b : List Int) : ∀ i, (mulOut a b i).length = a.length + b.length + 1
  | 0 => by simp [mulOut]
  | i + 1 => by simp [mulOut, mulRow, mulIn_len, mulOut_len a b i]
theorem prod_digit {x y : Int} (hx : 0 ≤ x ∧ x < 1000000000) (hy : 0 ≤ y ∧ y < 1000000000) : 0 ≤ x * y ∧ x * y ≤ 999999998000000001 :=
  ⟨Int.mul_nonneg hx.1 hy.1, by have := Int.mul_le_mul (show x ≤ 999999999 by omega) (show y ≤ 999999999 by omega) hy.1 (by omega); omega⟩
theorem mulIn_spec {out b : List Int} {i : Nat} {x : Int} (ho : Dg out) (hb : Dg b) (hx : 0 ≤ x ∧ x < 1000000000) : ∀ k, i + k ≤ out.length →
    Dg (mulIn out i x b k).1 ∧ (0 ≤ (mulIn out i x b k).2 ∧ (mulIn out i x b k).2 < 1000000000) ∧ dval (mulIn out i x b k).1 + pw (i + k) * (mulIn out i x b k).2 = dval out + x * (pw i * dval (b.take k)) ∧
    ∀ j, i + k ≤ j → (mulIn out i x b k).1.getD j 0 = out.getD j 0
  | 0, _ => ⟨ho, by simp [mulIn], by simp [mulIn, dval], fun j _ => rfl⟩
  | k + 1, hk => by
    obtain ⟨h1, h2, h3, h4⟩ := mulIn_spec (i := i) ho hb hx k (by omega)
    have hl := mulIn_len out i x b k
    have g1 := h1.get (i + k)
    have g2 := hb.get k
    have g3 := prod_digit hx g2
    refine ⟨dg_set h1 _ (by omega), by simp only [mulIn]; omega, ?_, fun j hj => ?_⟩
    · simp only [mulIn]
      rw [dval_set (by omega), dval_take_succ', ← Nat.add_assoc, pw_succ]
      generalize (mulIn out i x b k).1 = o at *
      generalize (mulIn out i x b k).2 = c at *
      have e : o.getD (i + k) 0 + x * b.getD k 0 + c = (o.getD (i + k) 0 + x * b.getD k 0 + c) % 1000000000 + 1000000000 * ((o.getD (i + k) 0 + x * b.getD k 0 + c) / 1000000000) := by omega
      generalize (o.getD (i + k) 0 + x * b.getD k 0 + c) % 1000000000 = r at *
      generalize (o.getD (i + k) 0 + x * b.getD k 0 + c) / 1000000000 = q at *
      have e2 : pw (i + k) * (o.getD (i + k) 0 + x * b.getD k 0 + c) = pw (i + k) * (r + 1000000000 * q) := by rw [← e]
      have e3 : pw (i + k) = pw i * pw k := Int.pow_add _ _ _
      have e4 : x * (pw i * (dval (b.take k) + pw k * b.getD k 0)) = x * (pw i * dval (b.take k)) + pw (i + k) * (x * b.getD k 0) := by
        rw [Int.mul_add, Int.mul_add, ← Int.mul_assoc (pw i) (pw k), ← e3, Int.mul_left_comm x (pw (i + k)) (b.getD k 0)]
      rw [e4, Int.mul_sub]
      simp only [Int.mul_add] at e2
      rw [Int.mul_assoc (pw (i + k)) 1000000000 q]
      omega
    · simp only [mulIn]
      rw [getD_set_ne (by omega)]; exact h4 j (by omega)
theorem mulOut_spec {a b : List Int} (ha : Dg a) (hb : Dg b) : ∀ i, i ≤ a.length → Dg (mulOut a b i) ∧ dval (mulOut a b i) = dval (a.take i) * dval b ∧ ∀ j, i + b.length ≤ j → (mulOut a b i).getD j 0 = 0
  | 0, _ => by
    refine ⟨fun x hx => ?_, ?_, fun j _ => ?_⟩
    · simp [mulOut] at hx; omega
    · simp only [mulOut, List.take_zero, dval, Int.zero_mul]
      generalize a.length + b.length + 1 = n
      induction n with
      | zero => rfl
      | succ n ih => simp [List.replicate_succ, dval, ih]
    · simp only [mulOut]
      rw [List.getD_eq_getElem?_getD, List.getElem?_replicate]
      split <;> rfl
  | i + 1, hi => by
    obtain ⟨h1, h2, h3⟩ := mulOut_spec ha hb i (by omega)
    have hl := mulOut_len a b i
    obtain ⟨g1, g2, g3, g4⟩ := mulIn_spec (i := i) (x := a.getD i 0) h1 hb (ha.get i) b.length (by omega)
    have hl2 := mulIn_len (mulOut a b i) i (a.getD i 0) b b.length
    have e0 : (mulIn (mulOut a b i) i (a.getD i 0) b b.length).1.getD (i + b.length) 0 = 0 := by rw [g4 _ (Nat.le_refl _), h3 _ (Nat.le_refl _)]
    refine ⟨?_, ?_, fun j hj => ?_⟩
    · simp only [mulOut, mulRow, e0, Int.zero_add]
      exact dg_set g1 _ g2
    · simp only [mulOut, mulRow, e0, Int.zero_add]
      rw [dval_set (by omega), e0, Int.sub_zero, g3, h2, dval_take_succ', List.take_length, Int.add_mul, ← Int.mul_assoc, Int.mul_comm (pw i)]
    · simp only [mulOut, mulRow]
      rw [getD_set_ne (by omega), g4 j (by omega), h3 j (by omega)]
end Go.Plain

namespace Go.Plain
/-- Long division of the digits a by y, from the top. -/
def fpP (a : List Int) (i : Nat) : Int := dval (a.drop i)
def fdig (a : List Int) (y : Int) (i : Nat) : Int := (a.getD i 0 + 1000000000 * (fpP a (i + 1) % y)) / y
def qS (a : List Int) (y : Int) : Nat → List Int
  | 0 => List.replicate a.length 0
  | t + 1 => (qS a y t).set (a.length - 1 - t) (fdig a y (a.length - 1 - t))
theorem qS_len (a : List Int) (y : Int) : ∀ t, (qS a y t).length = a.length
  | 0 => by simp [qS]
  | t + 1 => by simp [qS, qS_len a y t]
theorem fpP_step {a : List Int} {i : Nat} (h : i < a.length) : fpP a i = a.getD i 0 + 1000000000 * fpP a (i + 1) := by
  unfold fpP; rw [find_drop (d := 0) h]; rfl
theorem fpP_end (a : List Int) : fpP a a.length = 0 := by unfold fpP; rw [List.drop_length]; rfl
theorem fpP_zero (a : List Int) : fpP a 0 = dval a := rfl
theorem fpP_nonneg {a : List Int} (h : Dg a) (i : Nat) : 0 ≤ fpP a i := dval_nonneg (h.drop i)
theorem div_step {p r y : Int} (hy : 0 < y) : (r + 1000000000 * p) / y = 1000000000 * (p / y) + (r + 1000000000 * (p % y)) / y ∧ (r + 1000000000 * p) % y = (r + 1000000000 * (p % y)) % y := by
  have e : r + 1000000000 * p = (r + 1000000000 * (p % y)) + y * (1000000000 * (p / y)) := by
    have := Int.emod_add_mul_ediv p y
    have h2 : y * (1000000000 * (p / y)) = 1000000000 * (y * (p / y)) := Int.mul_left_comm _ _ _
    omega
  constructor
  · rw [e, Int.add_mul_ediv_left _ _ (by omega)]; omega
  · rw [e, Int.add_mul_emod_self_left]
theorem fdig_bound {a : List Int} {y : Int} (h : Dg a) (hy : 0 < y) (i : Nat) : 0 ≤ fdig a y i ∧ fdig a y i < 1000000000 := by
  have h1 := h.get i
  have h2 := Int.emod_nonneg (fpP a (i + 1)) (show y ≠ 0 by omega)
  have h3 := Int.emod_lt_of_pos (fpP a (i + 1)) hy
  unfold fdig
  constructor
  · exact Int.ediv_nonneg (by omega) (by omega)
  · exact Int.ediv_lt_of_lt_mul hy (by omega)
theorem qS_spec {a : List Int} {y : Int} (h : Dg a) (hy : 0 < y) : ∀ t, t ≤ a.length → Dg (qS a y t) ∧ dval (qS a y t) = pw (a.length - t) * (fpP a (a.length - t) / y) ∧ ∀ j, j < a.length - t → (qS a y t).getD j 0 = 0
  | 0, _ => by
    refine ⟨fun x hx => ?_, ?_, fun j _ => ?_⟩
    · simp [qS] at hx; omega
    · simp only [qS, Nat.sub_zero, fpP_end, Int.zero_ediv, Int.mul_zero]
      generalize a.length = n
      induction n with
      | zero => rfl
      | succ n ih => simp [List.replicate_succ, dval, ih]
    · simp only [qS]
      rw [List.getD_eq_getElem?_getD, List.getElem?_replicate]
      split <;> rfl
  | t + 1, ht => by
    obtain ⟨h1, h2, h3⟩ := qS_spec h hy t (by omega)
    have hl := qS_len a y t
    have e1 : a.length - (t + 1) = a.length - 1 - t := by omega
    have e2 : a.length - t = a.length - 1 - t + 1 := by omega
    have hj : a.length - 1 - t < a.length := by omega
    refine ⟨dg_set h1 _ (fdig_bound h hy _), ?_, fun j hjj => ?_⟩
    · simp only [qS]
      rw [dval_set (by omega), h3 _ (by omega), Int.sub_zero, h2, e1, e2, pw_succ]
      have hs := (div_step (p := fpP a (a.length - 1 - t + 1)) (r := a.getD (a.length - 1 - t) 0) hy).1
      rw [fpP_step hj, hs, Int.mul_add, ← Int.mul_assoc]; rfl
    · simp only [qS]
      rw [getD_set_ne (by omega), h3 j (by omega)]
theorem frem_step {a : List Int} {y : Int} (hy : 0 < y) {i : Nat} (h : i < a.length) : fpP a i % y = (a.getD i 0 + 1000000000 * (fpP a (i + 1) % y)) % y := by
  rw [fpP_step h, (div_step hy).2]
theorem neg_floor {x y : Int} (hy : 0 < y) : (-x) / y = if x % y = 0 then -(x / y) else -(x / y) - 1 := by
  have h1 := Int.emod_add_mul_ediv x y
  have h2 := Int.emod_nonneg x (show y ≠ 0 by omega)
  have h3 := Int.emod_lt_of_pos x hy
  split
  · rename_i h
    refine ((Int.ediv_emod_unique (r := 0) (q := -(x / y)) hy).2 ⟨?_, by omega, hy⟩).1
    rw [Int.mul_neg]; omega
  · rename_i h
    refine ((Int.ediv_emod_unique (r := y - x % y) (q := -(x / y) - 1) hy).2 ⟨?_, by omega, by omega⟩).1
    rw [Int.mul_sub, Int.mul_neg]; omega
end Go.Plain

namespace Go.Plain
theorem low_cross_eq (n d : Int) : lowNum n d * d = n * lowDen n d := by
  have e1 := low_num_eq n d
  have e2 := low_den_eq n d
  generalize (Int.gcd n d : Int) = g at *
  generalize lowNum n d = p at *
  generalize lowDen n d = q at *
  subst e1 e2
  rw [Int.mul_left_comm, Int.mul_assoc]
theorem sign_scale {a b c e : Int} (hc : 0 < c) (he : 0 < e) (h : a * c = b * e) : a.sign = b.sign := by
  have h1 := congrArg Int.sign h
  rw [Int.sign_mul, Int.sign_mul, Int.sign_eq_one_of_pos hc, Int.sign_eq_one_of_pos he, Int.mul_one, Int.mul_one] at h1
  exact h1
/-- Comparing u p^2 / q^2 with n, in lowest terms. -/
theorem cmp_sign {u p q n N D : Int} (hq : 0 < q * q) (hD : 0 < D) (h : N * (q * q) = u * (p * p) * D) : (N - n * D).sign = (u * (p * p) - n * (q * q)).sign := by
  refine sign_scale hq hD ?_
  rw [Int.sub_mul, Int.sub_mul, h, Int.mul_right_comm n D]
end Go.Plain
