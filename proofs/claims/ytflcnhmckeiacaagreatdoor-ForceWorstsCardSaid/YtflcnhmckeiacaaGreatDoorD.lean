/- Plain facts on digits to the base 10^9, the lowest one first. -/
import Derived.Test.YtflcnhmckeiacaaGreatDoorM
namespace Go.Plain
def dval : List Int → Int
  | [] => 0
  | x :: l => x + 1000000000 * dval l
def Dg (l : List Int) : Prop := ∀ x ∈ l, 0 ≤ x ∧ x < 1000000000
def digs (n : Nat) : List Int := if h : n = 0 then [] else ((n % 1000000000 : Nat) : Int) :: digs (n / 1000000000)
termination_by n
decreasing_by exact Nat.div_lt_self (by omega) (by decide)
theorem digs_zero : digs 0 = [] := by unfold digs; simp
theorem digs_pos {n : Nat} (h : n ≠ 0) : digs n = ((n % 1000000000 : Nat) : Int) :: digs (n / 1000000000) := by
  conv => lhs; unfold digs
  rw [dif_neg h]
abbrev pw (n : Nat) : Int := (1000000000 : Int) ^ n
theorem pw_zero : pw 0 = 1 := rfl
theorem pw_succ (n : Nat) : pw (n + 1) = pw n * 1000000000 := Int.pow_succ _ _
theorem pw_pos (n : Nat) : 0 < pw n := Int.pow_pos (by decide)
theorem dval_digs (n : Nat) : dval (digs n) = n := by
  induction n using Nat.strongRecOn with
  | _ n ih =>
    by_cases h : n = 0
    · subst h; rw [digs_zero]; rfl
    · rw [digs_pos h]
      unfold dval
      rw [ih _ (Nat.div_lt_self (by omega) (by decide))]
      omega
theorem dg_digs (n : Nat) : Dg (digs n) := by
  induction n using Nat.strongRecOn with
  | _ n ih =>
    by_cases h : n = 0
    · subst h; rw [digs_zero]; intro x hx; simp at hx
    · rw [digs_pos h]
      intro x hx
      rcases List.mem_cons.1 hx with rfl | hx
      · omega
      · exact ih _ (Nat.div_lt_self (by omega) (by decide)) x hx
theorem dg_nil : Dg [] := by intro x hx; simp at hx
theorem Dg.tail {x : Int} {l : List Int} (h : Dg (x :: l)) : Dg l := fun y hy => h y (List.mem_cons_of_mem _ hy)
theorem Dg.take {l : List Int} (h : Dg l) (n : Nat) : Dg (l.take n) := fun y hy => h y (List.mem_of_mem_take hy)
theorem Dg.drop {l : List Int} (h : Dg l) (n : Nat) : Dg (l.drop n) := fun y hy => h y (List.mem_of_mem_drop hy)
theorem Dg.get {l : List Int} (h : Dg l) (i : Nat) : 0 ≤ l.getD i 0 ∧ l.getD i 0 < 1000000000 := by
  by_cases hi : i < l.length
  · exact h _ (getD_mem hi)
  · simp [List.getD_eq_getElem?_getD, List.getElem?_eq_none (by omega : l.length ≤ i)]
theorem dval_nonneg {l : List Int} (h : Dg l) : 0 ≤ dval l := by
  induction l with
  | nil => simp [dval]
  | cons x l ih =>
    have := h x List.mem_cons_self
    have := ih h.tail
    unfold dval; omega
theorem dval_append (l l' : List Int) : dval (l ++ l') = dval l + pw l.length * dval l' := by
  induction l with
  | nil => simp [dval, pw]
  | cons x l ih =>
    simp only [List.cons_append, dval, ih, List.length_cons, pw_succ]
    rw [Int.mul_add, Int.mul_comm (pw l.length) 1000000000, Int.mul_assoc]
    omega
theorem dval_snoc (l : List Int) (x : Int) : dval (l ++ [x]) = dval l + pw l.length * x := by rw [dval_append]; simp [dval]
theorem dval_lt {l : List Int} (h : Dg l) : dval l < pw l.length := by
  induction l with
  | nil => simp [dval, pw]
  | cons x l ih =>
    have h1 := h x List.mem_cons_self
    have h2 := ih h.tail
    rw [List.length_cons, pw_succ]
    unfold dval; omega
theorem dval_take_succ {l : List Int} {n : Nat} (h : n < l.length) : dval (l.take (n + 1)) = dval (l.take n) + pw n * l.getD n 0 := by
  rw [take_snoc (d := 0) h, dval_snoc]
  have : (l.take n).length = n := by simp; omega
  rw [this]
theorem dval_split (l : List Int) (n : Nat) (h : n ≤ l.length) : dval l = dval (l.take n) + pw n * dval (l.drop n) := by
  have := dval_append (l.take n) (l.drop n)
  rw [List.take_append_drop] at this
  rw [this]
  have e : (l.take n).length = n := by simp; omega
  rw [e]
/-- Without zeros at the end. -/
def Canon (l : List Int) : Prop := Dg l ∧ (l = [] ∨ l.getD (l.length - 1) 0 ≠ 0)
theorem Canon.tail {x : Int} {l : List Int} (h : Canon (x :: l)) (hl : l ≠ []) : Canon l := by
  refine ⟨h.1.tail, .inr ?_⟩
  rcases h.2 with h2 | h2
  · cases h2
  · have : 0 < l.length := List.length_pos_iff.2 hl
    have e : (x :: l).length - 1 = (l.length - 1) + 1 := by simp; omega
    rw [e] at h2
    simpa [List.getD_eq_getElem?_getD] using h2
theorem canon_pos {l : List Int} (h : Canon l) (hl : l ≠ []) : 0 < dval l := by
  induction l with
  | nil => exact absurd rfl hl
  | cons x l ih =>
    have h1 := h.1 x List.mem_cons_self
    by_cases he : l = []
    · subst he
      rcases h.2 with h2 | h2
      · cases h2
      · simp at h2; unfold dval; simp [dval]; omega
    · have := ih (h.tail he) he
      unfold dval; omega
theorem canon_eq {l : List Int} (h : Canon l) : l = digs (dval l).toNat := by
  induction l with
  | nil => simp [dval, digs_zero]
  | cons x l ih =>
    have h1 := h.1 x List.mem_cons_self
    have hp := canon_pos h (by simp)
    have h0 := dval_nonneg h.1.tail
    have hn : (dval (x :: l)).toNat ≠ 0 := by omega
    rw [digs_pos hn]
    have ed : dval (x :: l) = x + 1000000000 * dval l := rfl
    have e1 : (((dval (x :: l)).toNat % 1000000000 : Nat) : Int) = x := by omega
    have e2 : (dval (x :: l)).toNat / 1000000000 = (dval l).toNat := by omega
    rw [e1, e2]
    by_cases he : l = []
    · subst he; simp [dval, digs_zero]
    · rw [← ih (h.tail he)]
theorem canon_digs (n : Nat) : Canon (digs n) := by
  refine ⟨dg_digs n, ?_⟩
  induction n using Nat.strongRecOn with
  | _ n ih =>
    by_cases h : n = 0
    · subst h; left; exact digs_zero
    · right
      rw [digs_pos h]
      by_cases h2 : n / 1000000000 = 0
      · rw [h2, digs_zero]
        simp; omega
      · have := ih _ (Nat.div_lt_self (Nat.pos_of_ne_zero h) (show 1 < 1000000000 by decide))
        rcases this with h3 | h3
        · rw [digs_pos h2] at h3; cases h3
        · have hl : 0 < (digs (n / 1000000000)).length := by rw [digs_pos h2]; simp
          have e : (((n % 1000000000 : Nat) : Int) :: digs (n / 1000000000)).length - 1 = ((digs (n / 1000000000)).length - 1) + 1 := by simp; omega
          rw [e]
          simpa [List.getD_eq_getElem?_getD] using h3
/-- Where the zeros at the end begin. -/
def trimN (l : List Int) : Nat → Nat
  | 0 => 0
  | n + 1 => if l.getD n 0 = 0 then trimN l n else n + 1
theorem trimN_le (l : List Int) : ∀ n, trimN l n ≤ n
  | 0 => by simp [trimN]
  | n + 1 => by have := trimN_le l n; unfold trimN; split <;> omega
def trim (l : List Int) : List Int := l.take (trimN l l.length)
theorem dval_trimN {l : List Int} : ∀ {n : Nat}, n ≤ l.length → dval (l.take (trimN l n)) = dval (l.take n)
  | 0, _ => rfl
  | n + 1, h => by
    unfold trimN
    split
    · rename_i h0
      rw [dval_trimN (n := n) (by omega), dval_take_succ (by omega), h0]; simp
    · rfl
theorem trimN_last {l : List Int} : ∀ {n : Nat}, trimN l n = 0 ∨ l.getD (trimN l n - 1) 0 ≠ 0
  | 0 => .inl rfl
  | n + 1 => by
    unfold trimN
    split
    · exact trimN_last (n := n)
    · rename_i h; exact .inr h
theorem trim_eq {l : List Int} (h : Dg l) : trim l = digs (dval l).toNat := by
  have h1 : dval (trim l) = dval l := by unfold trim; rw [dval_trimN (Nat.le_refl _), List.take_length]
  have h2 : Canon (trim l) := by
    refine ⟨h.take _, ?_⟩
    have hle := trimN_le l l.length
    unfold trim
    rcases trimN_last (l := l) (n := l.length) with h3 | h3
    · left; rw [h3]; simp
    · by_cases h0 : trimN l l.length = 0
      · left; rw [h0]; simp
      · right
        have e : (l.take (trimN l l.length)).length = trimN l l.length := by simp; omega
        rw [e]
        have : (l.take (trimN l l.length)).getD (trimN l l.length - 1) 0 = l.getD (trimN l l.length - 1) 0 := by
          simp [List.getD_eq_getElem?_getD, show trimN l l.length - 1 < trimN l l.length by omega]
        rw [this]; exact h3
  rw [← h1]; exact canon_eq h2
theorem trim_len_le (l : List Int) : (trim l).length ≤ l.length := by unfold trim; simp; omega
theorem digs_len_le {n k : Nat} (h : (n : Int) < pw k) : (digs n).length ≤ k := by
  induction k generalizing n with
  | zero =>
    have : n = 0 := by simp [pw] at h; omega
    subst this; rw [digs_zero]; simp
  | succ k ih =>
    by_cases h0 : n = 0
    · subst h0; rw [digs_zero]; simp
    · rw [digs_pos h0]
      rw [pw_succ] at h
      have := ih (n := n / 1000000000) (by omega)
      simp; omega
theorem digs_nil {n : Nat} : digs n = [] ↔ n = 0 := by
  constructor
  · intro h
    apply Classical.byContradiction
    intro h0
    rw [digs_pos h0] at h; cases h
  · rintro rfl; exact digs_zero
end Go.Plain

namespace Go.Plain
theorem dval_take_succ' (l : List Int) (n : Nat) : dval (l.take (n + 1)) = dval (l.take n) + pw n * l.getD n 0 := by
  by_cases h : n < l.length
  · exact dval_take_succ h
  · rw [List.take_of_length_le (by omega), List.take_of_length_le (by omega)]
    simp [List.getD_eq_getElem?_getD, List.getElem?_eq_none (by omega : l.length ≤ n)]
theorem pw_mono {m n : Nat} (h : m ≤ n) : pw m ≤ pw n := by
  induction n with
  | zero => have : m = 0 := by omega
            subst this; exact Int.le_refl _
  | succ n ih =>
    by_cases e : m = n + 1
    · subst e; exact Int.le_refl _
    · have h1 := ih (by omega)
      have h2 := pw_pos n
      rw [pw_succ]; omega
def cmpN (x y : Nat) : Int := if x < y then -1 else if y < x then 1 else 0
theorem canon_ge {l : List Int} (h : Canon l) (hl : l ≠ []) : pw (l.length - 1) ≤ dval l := by
  have hpos : 0 < l.length := List.length_pos_iff.2 hl
  have h1 := dval_split l (l.length - 1) (by omega)
  have h2 : l.drop (l.length - 1) = [l.getD (l.length - 1) 0] := by
    rw [find_drop (d := 0) (by omega), show l.length - 1 + 1 = l.length by omega, List.drop_length]
  rw [h2] at h1
  have h3 : l.getD (l.length - 1) 0 ≠ 0 := by
    rcases h.2 with h3 | h3
    · exact absurd h3 hl
    · exact h3
  have h4 := h.1.get (l.length - 1)
  have h5 := dval_nonneg (h.1.take (l.length - 1))
  have h6 := pw_pos (l.length - 1)
  have h7 : pw (l.length - 1) * 1 ≤ pw (l.length - 1) * l.getD (l.length - 1) 0 := Int.mul_le_mul_of_nonneg_left (by omega) (by omega)
  simp only [dval] at h1
  simp only [Int.mul_zero, Int.add_zero] at h1
  omega
theorem len_lt {a b : List Int} (ha : Canon a) (hb : Canon b) (h : a.length < b.length) : dval a < dval b := by
  have h1 := dval_lt ha.1
  have h2 := canon_ge hb (by intro e; subst e; simp at h)
  have h3 := pw_mono (show a.length ≤ b.length - 1 by omega)
  omega
theorem top_lt {a b : List Int} (ha : Dg a) (hb : Dg b) {i : Nat} (h : a.length = b.length) (hi : i < a.length) (ht : a.drop (i + 1) = b.drop (i + 1)) (hlt : a.getD i 0 < b.getD i 0) : dval a < dval b := by
  have h1 := dval_split a i (by omega)
  have h2 := dval_split b i (by omega)
  rw [find_drop (d := 0) hi] at h1
  rw [find_drop (d := 0) (show i < b.length by omega)] at h2
  rw [ht] at h1
  simp only [dval] at h1 h2
  generalize dval (List.drop (i + 1) b) = z at *
  have h3 := dval_lt (ha.take i)
  have e : (a.take i).length = i := by simp; omega
  rw [e] at h3
  have h4 := dval_nonneg (hb.take i)
  have h5 := pw_pos i
  have h6 : pw i * (a.getD i 0 + 1 + 1000000000 * z) ≤ pw i * (b.getD i 0 + 1000000000 * z) := Int.mul_le_mul_of_nonneg_left (by omega) (by omega)
  have h7 : pw i * (a.getD i 0 + 1 + 1000000000 * z) = pw i * (a.getD i 0 + 1000000000 * z) + pw i := by
    rw [show a.getD i 0 + 1 + 1000000000 * z = (a.getD i 0 + 1000000000 * z) + 1 by omega, Int.mul_add, Int.mul_one]
  omega
/-- Sums, digit by digit. -/
def addC (a b : List Int) : Nat → Int
  | 0 => 0
  | i + 1 => (a.getD i 0 + b.getD i 0 + addC a b i) / 1000000000
def addD (a b : List Int) (i : Nat) : Int := (a.getD i 0 + b.getD i 0 + addC a b i) % 1000000000
theorem addC_bound {a b : List Int} (ha : Dg a) (hb : Dg b) : ∀ i, 0 ≤ addC a b i ∧ addC a b i ≤ 1
  | 0 => by simp [addC]
  | i + 1 => by
    have h1 := addC_bound ha hb i
    have h2 := ha.get i
    have h3 := hb.get i
    unfold addC; omega
def addL (a b : List Int) (n : Nat) : List Int := (List.range n).map (addD a b)
theorem addL_succ (a b : List Int) (n : Nat) : addL a b (n + 1) = addL a b n ++ [addD a b n] := rangeMap_succ
theorem addL_len (a b : List Int) (n : Nat) : (addL a b n).length = n := by simp [addL]
theorem addL_dg {a b : List Int} (n : Nat) : Dg (addL a b n) := by
  intro x hx
  obtain ⟨k, _, rfl⟩ := List.mem_map.1 hx
  unfold addD; omega
theorem addL_val (a b : List Int) : ∀ n, dval (addL a b n) + pw n * addC a b n = dval (a.take n) + dval (b.take n)
  | 0 => by simp [addL, dval, addC]
  | n + 1 => by
    have h := addL_val a b n
    rw [addL_succ, dval_snoc, addL_len, dval_take_succ', dval_take_succ', pw_succ]
    have e : a.getD n 0 + b.getD n 0 + addC a b n = addD a b n + 1000000000 * addC a b (n + 1) := by
      unfold addD
      rw [show addC a b (n + 1) = (a.getD n 0 + b.getD n 0 + addC a b n) / 1000000000 from rfl]
      omega
    have e2 : pw n * (a.getD n 0 + b.getD n 0 + addC a b n) = pw n * (addD a b n + 1000000000 * addC a b (n + 1)) := by rw [e]
    rw [Int.mul_add, Int.mul_add, Int.mul_add, ← Int.mul_assoc (pw n) 1000000000] at e2
    omega
/-- Where the sum ends. -/
def addN (a b : List Int) : Nat := max a.length b.length + (if addC a b (max a.length b.length) > 0 then 1 else 0)
theorem addN_cond {a b : List Int} (ha : Dg a) (hb : Dg b) {i : Nat} (hi : i ≤ addN a b) : (i < a.length ∨ i < b.length ∨ addC a b i > 0) ↔ i < addN a b := by
  have hb1 := addC_bound ha hb (max a.length b.length)
  unfold addN at hi ⊢
  by_cases h : i < max a.length b.length
  · have : i < a.length ∨ i < b.length := by omega
    constructor
    · intro _; omega
    · intro _; rcases this with h | h
      · exact .inl h
      · exact .inr (.inl h)
  · by_cases hm : i = max a.length b.length
    · subst hm
      split at hi <;> rename_i hc
      · rw [if_pos hc]
        exact ⟨fun _ => by omega, fun _ => .inr (.inr hc)⟩
      · rw [if_neg hc]
        exact ⟨fun h => by rcases h with h | h | h <;> omega, fun h => by omega⟩
    · split at hi <;> rename_i hc
      · have hi2 : i = max a.length b.length + 1 := by omega
        have e1 : a.getD (max a.length b.length) 0 = 0 := by simp [List.getD_eq_getElem?_getD, List.getElem?_eq_none (by omega : a.length ≤ max a.length b.length)]
        have e2 : b.getD (max a.length b.length) 0 = 0 := by simp [List.getD_eq_getElem?_getD, List.getElem?_eq_none (by omega : b.length ≤ max a.length b.length)]
        have e3 : addC a b i = 0 := by
          rw [hi2]
          show (a.getD (max a.length b.length) 0 + b.getD (max a.length b.length) 0 + addC a b (max a.length b.length)) / 1000000000 = 0
          rw [e1, e2]; omega
        rw [if_pos hc, e3]
        exact ⟨fun h => by rcases h with h | h | h <;> omega, fun h => by omega⟩
      · omega
theorem addN_end {a b : List Int} (ha : Dg a) (hb : Dg b) : dval (addL a b (addN a b)) = dval a + dval b := by
  have h1 := addL_val a b (addN a b)
  have h2 := (addN_cond ha hb (Nat.le_refl _)).1
  have h3 := addC_bound ha hb (addN a b)
  have h4 : addC a b (addN a b) = 0 := by
    apply Classical.byContradiction
    intro h
    have := h2 (.inr (.inr (by omega)))
    omega
  rw [h4, Int.mul_zero, Int.add_zero] at h1
  rw [List.take_of_length_le (by unfold addN; omega), List.take_of_length_le (by unfold addN; omega)] at h1
  exact h1
/-- Differences, digit by digit. -/
def sbB (a b : List Int) : Nat → Int
  | 0 => 0
  | i + 1 => if a.getD i 0 - b.getD i 0 - sbB a b i < 0 then 1 else 0
def sbD (a b : List Int) (i : Nat) : Int := if a.getD i 0 - b.getD i 0 - sbB a b i < 0 then a.getD i 0 - b.getD i 0 - sbB a b i + 1000000000 else a.getD i 0 - b.getD i 0 - sbB a b i
theorem sbB_bound (a b : List Int) : ∀ i, 0 ≤ sbB a b i ∧ sbB a b i ≤ 1
  | 0 => by simp [sbB]
  | i + 1 => by unfold sbB; split <;> omega
def sbL (a b : List Int) (n : Nat) : List Int := (List.range n).map (sbD a b)
theorem sbL_succ (a b : List Int) (n : Nat) : sbL a b (n + 1) = sbL a b n ++ [sbD a b n] := rangeMap_succ
theorem sbL_len (a b : List Int) (n : Nat) : (sbL a b n).length = n := by simp [sbL]
theorem sbL_dg {a b : List Int} (ha : Dg a) (hb : Dg b) (n : Nat) : Dg (sbL a b n) := by
  intro x hx
  obtain ⟨k, _, rfl⟩ := List.mem_map.1 hx
  have := ha.get k
  have := hb.get k
  have := sbB_bound a b k
  unfold sbD; split <;> omega
theorem sbL_val (a b : List Int) : ∀ n, dval (sbL a b n) = dval (a.take n) - dval (b.take n) + pw n * sbB a b n
  | 0 => by simp [sbL, dval, sbB]
  | n + 1 => by
    have h := sbL_val a b n
    rw [sbL_succ, dval_snoc, sbL_len, dval_take_succ', dval_take_succ', pw_succ, h]
    have e : sbD a b n = a.getD n 0 - b.getD n 0 - sbB a b n + 1000000000 * sbB a b (n + 1) := by
      unfold sbD
      rw [show sbB a b (n + 1) = if a.getD n 0 - b.getD n 0 - sbB a b n < 0 then 1 else 0 from rfl]
      split <;> omega
    rw [e, Int.mul_add, Int.mul_sub, Int.mul_sub, Int.mul_assoc (pw n)]
    omega
theorem sbL_end {a b : List Int} (ha : Dg a) (hb : Dg b) (hl : b.length ≤ a.length) (h : dval b ≤ dval a) : dval (sbL a b a.length) = dval a - dval b := by
  have h1 := sbL_val a b a.length
  rw [List.take_length, List.take_of_length_le hl] at h1
  have h2 := dval_lt (sbL_dg ha hb a.length)
  rw [sbL_len] at h2
  have h3 := sbB_bound a b a.length
  have h4 : sbB a b a.length = 0 ∨ sbB a b a.length = 1 := by omega
  rcases h4 with h4 | h4
  · rw [h4] at h1; simpa using h1
  · rw [h4] at h1; omega
theorem digs_len_mono {x y : Nat} (h : y ≤ x) : (digs y).length ≤ (digs x).length := by
  apply Classical.byContradiction
  intro hh
  have := len_lt (canon_digs x) (canon_digs y) (by omega)
  rw [dval_digs, dval_digs] at this
  omega
end Go.Plain

namespace Go.Plain
theorem dval_set {l : List Int} {j : Nat} (h : j < l.length) (v : Int) : dval (l.set j v) = dval l + pw j * (v - l.getD j 0) := by
  induction l generalizing j with
  | nil => simp at h
  | cons x l ih =>
    cases j with
    | zero => simp [dval, pw]; omega
    | succ j =>
      have := ih (j := j) (by simpa using h)
      simp only [List.set_cons_succ, dval, this, pw_succ, List.getD_cons_succ]
      rw [Int.mul_add, Int.mul_comm (pw j) 1000000000, Int.mul_assoc]
      omega
theorem getD_set_same {l : List Int} {j : Nat} (h : j < l.length) (v : Int) : (l.set j v).getD j 0 = v := by simp [List.getD_eq_getElem?_getD, h]
theorem getD_set_ne {l : List Int} {i j : Nat} (h : i ≠ j) (v : Int) : (l.set i v).getD j 0 = l.getD j 0 := by simp [List.getD_eq_getElem?_getD, List.getElem?_set_ne h]
theorem dg_set {l : List Int} (h : Dg l) (j : Nat) {v : Int} (hv : 0 ≤ v ∧ v < 1000000000) : Dg (l.set j v) := by
  intro x hx
  rcases List.mem_or_eq_of_mem_set hx with hx | rfl
  · exact h x hx
  · exact hv
/-- One row of a product. -/
def mulIn (out : List Int) (i : Nat) (x : Int) (b : List Int) : Nat → List Int × Int
  | 0 => (out, 0)
  | k + 1 => ((mulIn out i x b k).1.set (i + k) (((mulIn out i x b k).1.getD (i + k) 0 + x * b.getD k 0 + (mulIn out i x b k).2) % 1000000000),
      ((mulIn out i x b k).1.getD (i + k) 0 + x * b.getD k 0 + (mulIn out i x b k).2) / 1000000000)
def mulRow (out : List Int) (i : Nat) (x : Int) (b : List Int) : List Int :=
  (mulIn out i x b b.length).1.set (i + b.length) ((mulIn out i x b b.length).1.getD (i + b.length) 0 + (mulIn out i x b b.length).2)
def mulOut (a b : List Int) : Nat → List Int
  | 0 => List.replicate (a.length + b.length + 1) 0
  | i + 1 => mulRow (mulOut a b i) i (a.getD i 0) b
theorem mulIn_len (out : List Int) (i : Nat) (x : Int) (b : List Int) : ∀ k, (mulIn out i x b k).1.length = out.length
  | 0 => rfl
  | k + 1 => by simp [mulIn, mulIn_len out i x b k]
theorem mulOut_len (a b : List Int) : ∀ i, (mulOut a b i).length = a.length + b.length + 1
  | 0 => by simp [mulOut]
  | i + 1 => by simp [mulOut, mulRow, mulIn_len, mulOut_len a b i]
theorem prod_digit {x y : Int} (hx : 0 ≤ x ∧ x < 1000000000) (hy : 0 ≤ y ∧ y < 1000000000) : 0 ≤ x * y ∧ x * y ≤ 999999998000000001 :=
  ⟨Int.mul_nonneg hx.1 hy.1, by have := Int.mul_le_mul (show x ≤ 999999999 by omega) (show y ≤ 999999999 by omega) hy.1 (by omega); omega⟩
theorem mulIn_spec {out b : List Int} {i : Nat} {x : Int} (ho : Dg out) (hb : Dg b) (hx : 0 ≤ x ∧ x < 1000000000) : ∀ k, i + k ≤ out.length →
    Dg (mulIn out i x b k).1 ∧ (0 ≤ (mulIn out i x b k).2 ∧ (mulIn out i x b k).2 < 1000000000) ∧ dval (mulIn out i x b k).1 + pw (i + k) * (mulIn out i x b k).2 = dval out + x * (pw i * dval (b.take k)) ∧
    ∀ j, i + k ≤ j → (mulIn out i x b k).1.getD j 0 = out.getD j 0
  | 0, _ => ⟨ho, by simp [mulIn], by simp [mulIn, dval], fun j _ => rfl⟩
  | k + 1, hk => by
    obtain ⟨h1, h2, h3, h4⟩ := mulIn_spec (i := i) ho hb hx k (by omega)
    have hl := mulIn_len out i x b k
    have g1 := h1.get (i + k)
    have g2 := hb.get k
    have g3 := prod_digit hx g2
    refine ⟨dg_set h1 _ (by omega), by simp only [mulIn]; omega, ?_, fun j hj => ?_⟩
    · simp only [mulIn]
      rw [dval_set (by omega), dval_take_succ', ← Nat.add_assoc, pw_succ]
      generalize (mulIn out i x b k).1 = o at *
      generalize (mulIn out i x b k).2 = c at *
      have e : o.getD (i + k) 0 + x * b.getD k 0 + c = (o.getD (i + k) 0 + x * b.getD k 0 + c) % 1000000000 + 1000000000 * ((o.getD (i + k) 0 + x * b.getD k 0 + c) / 1000000000) := by omega
      generalize (o.getD (i + k) 0 + x * b.getD k 0 + c) % 1000000000 = r at *
      generalize (o.getD (i + k) 0 + x * b.getD k 0 + c) / 1000000000 = q at *
      have e2 : pw (i + k) * (o.getD (i + k) 0 + x * b.getD k 0 + c) = pw (i + k) * (r + 1000000000 * q) := by rw [← e]
      have e3 : pw (i + k) = pw i * pw k := Int.pow_add _ _ _
      have e4 : x * (pw i * (dval (b.take k) + pw k * b.getD k 0)) = x * (pw i * dval (b.take k)) + pw (i + k) * (x * b.getD k 0) := by
        rw [Int.mul_add, Int.mul_add, ← Int.mul_assoc (pw i) (pw k), ← e3, Int.mul_left_comm x (pw (i + k)) (b.getD k 0)]
      rw [e4, Int.mul_sub]
      simp only [Int.mul_add] at e2
      rw [Int.mul_assoc (pw (i + k)) 1000000000 q]
      omega
    · simp only [mulIn]
      rw [getD_set_ne (by omega)]; exact h4 j (by omega)
theorem mulOut_spec {a b : List Int} (ha : Dg a) (hb : Dg b) : ∀ i, i ≤ a.length → Dg (mulOut a b i) ∧ dval (mulOut a b i) = dval (a.take i) * dval b ∧ ∀ j, i + b.length ≤ j → (mulOut a b i).getD j 0 = 0
  | 0, _ => by
    refine ⟨fun x hx => ?_, ?_, fun j _ => ?_⟩
    · simp [mulOut] at hx; omega
    · simp only [mulOut, List.take_zero, dval, Int.zero_mul]
      generalize a.length + b.length + 1 = n
      induction n with
      | zero => rfl
      | succ n ih => simp [List.replicate_succ, dval, ih]
    · simp only [mulOut]
      rw [List.getD_eq_getElem?_getD, List.getElem?_replicate]
      split <;> rfl
  | i + 1, hi => by
    obtain ⟨h1, h2, h3⟩ := mulOut_spec ha hb i (by omega)
    have hl := mulOut_len a b i
    obtain ⟨g1, g2, g3, g4⟩ := mulIn_spec (i := i) (x := a.getD i 0) h1 hb (ha.get i) b.length (by omega)
    have hl2 := mulIn_len (mulOut a b i) i (a.getD i 0) b b.length
    have e0 : (mulIn (mulOut a b i) i (a.getD i 0) b b.length).1.getD (i + b.length) 0 = 0 := by rw [g4 _ (Nat.le_refl _), h3 _ (Nat.le_refl _)]
    refine ⟨?_, ?_, fun j hj => ?_⟩
    · simp only [mulOut, mulRow, e0, Int.zero_add]
      exact dg_set g1 _ g2
    · simp only [mulOut, mulRow, e0, Int.zero_add]
      rw [dval_set (by omega), e0, Int.sub_zero, g3, h2, dval_take_succ', List.take_length, Int.add_mul, ← Int.mul_assoc, Int.mul_comm (pw i)]
    · simp only [mulOut, mulRow]
      rw [getD_set_ne (by omega), g4 j (by omega), h3 j (by omega)]
end Go.Plain

namespace Go.Plain
/-- Long division of the digits a by y, from the top. -/
def fpP (a : List Int) (i : Nat) : Int := dval (a.drop i)
def fdig (a : List Int) (y : Int) (i : Nat) : Int := (a.getD i 0 + 1000000000 * (fpP a (i + 1) % y)) / y
def qS (a : List Int) (y : Int) : Nat → List Int
  | 0 => List.replicate a.length 0
  | t + 1 => (qS a y t).set (a.length - 1 - t) (fdig a y (a.length - 1 - t))
theorem qS_len (a : List Int) (y : Int) : ∀ t, (qS a y t).length = a.length
  | 0 => by simp [qS]
  | t + 1 => by simp [qS, qS_len a y t]
theorem fpP_step {a : List Int} {i : Nat} (h : i < a.length) : fpP a i = a.getD i 0 + 1000000000 * fpP a (i + 1) := by
  unfold fpP; rw [find_drop (d := 0) h]; rfl
theorem fpP_end (a : List Int) : fpP a a.length = 0 := by unfold fpP; rw [List.drop_length]; rfl
theorem fpP_zero (a : List Int) : fpP a 0 = dval a := rfl
theorem fpP_nonneg {a : List Int} (h : Dg a) (i : Nat) : 0 ≤ fpP a i := dval_nonneg (h.drop i)
theorem div_step {p r y : Int} (hy : 0 < y) : (r + 1000000000 * p) / y = 1000000000 * (p / y) + (r + 1000000000 * (p % y)) / y ∧ (r + 1000000000 * p) % y = (r + 1000000000 * (p % y)) % y := by
  have e : r + 1000000000 * p = (r + 1000000000 * (p % y)) + y * (1000000000 * (p / y)) := by
    have := Int.emod_add_mul_ediv p y
    have h2 : y * (1000000000 * (p / y)) = 1000000000 * (y * (p / y)) := Int.mul_left_comm _ _ _
    omega
  constructor
  · rw [e, Int.add_mul_ediv_left _ _ (by omega)]; omega
  · rw [e, Int.add_mul_emod_self_left]
theorem fdig_bound {a : List Int} {y : Int} (h : Dg a) (hy : 0 < y) (i : Nat) : 0 ≤ fdig a y i ∧ fdig a y i < 1000000000 := by
  have h1 := h.get i
  have h2 := Int.emod_nonneg (fpP a (i + 1)) (show y ≠ 0 by omega)
  have h3 := Int.emod_lt_of_pos (fpP a (i + 1)) hy
  unfold fdig
  constructor
  · exact Int.ediv_nonneg (by omega) (by omega)
  · exact Int.ediv_lt_of_lt_mul hy (by omega)
theorem qS_spec {a : List Int} {y : Int} (h : Dg a) (hy : 0 < y) : ∀ t, t ≤ a.length → Dg (qS a y t) ∧ dval (qS a y t) = pw (a.length - t) * (fpP a (a.length - t) / y) ∧ ∀ j, j < a.length - t → (qS a y t).getD j 0 = 0
  | 0, _ => by
    refine ⟨fun x hx => ?_, ?_, fun j _ => ?_⟩
    · simp [qS] at hx; omega
    · simp only [qS, Nat.sub_zero, fpP_end, Int.zero_ediv, Int.mul_zero]
      generalize a.length = n
      induction n with
      | zero => rfl
      | succ n ih => simp [List.replicate_succ, dval, ih]
    · simp only [qS]
      rw [List.getD_eq_getElem?_getD, List.getElem?_replicate]
      split <;> rfl
  | t + 1, ht => by
    obtain ⟨h1, h2, h3⟩ := qS_spec h hy t (by omega)
    have hl := qS_len a y t
    have e1 : a.length - (t + 1) = a.length - 1 - t := by omega
    have e2 : a.length - t = a.length - 1 - t + 1 := by omega
    have hj : a.length - 1 - t < a.length := by omega
    refine ⟨dg_set h1 _ (fdig_bound h hy _), ?_, fun j hjj => ?_⟩
    · simp only [qS]
      rw [dval_set (by omega), h3 _ (by omega), Int.sub_zero, h2, e1, e2, pw_succ]
      have hs := (div_step (p := fpP a (a.length - 1 - t + 1)) (r := a.getD (a.length - 1 - t) 0) hy).1
      rw [fpP_step hj, hs, Int.mul_add, ← Int.mul_assoc]; rfl
    · simp only [qS]
      rw [getD_set_ne (by omega), h3 j (by omega)]
theorem frem_step {a : List Int} {y : Int} (hy : 0 < y) {i : Nat} (h : i < a.length) : fpP a i % y = (a.getD i 0 + 1000000000 * (fpP a (i + 1) % y)) % y := by
  rw [fpP_step h, (div_step hy).2]
theorem neg_floor {x y : Int} (hy : 0 < y) : (-x) / y = if x % y = 0 then -(x / y) else -(x / y) - 1 := by
  have h1 := Int.emod_add_mul_ediv x y
  have h2 := Int.emod_nonneg x (show y ≠ 0 by omega)
  have h3 := Int.emod_lt_of_pos x hy
  split
  · rename_i h
    refine ((Int.ediv_emod_unique (r := 0) (q := -(x / y)) hy).2 ⟨?_, by omega, hy⟩).1
    rw [Int.mul_neg]; omega
  · rename_i h
    refine ((Int.ediv_emod_unique (r := y - x % y) (q := -(x / y) - 1) hy).2 ⟨?_, by omega, by omega⟩).1
    rw [Int.mul_sub, Int.mul_neg]; omega
end Go.Plain

namespace Go.Plain
theorem low_cross_eq (n d : Int) : lowNum n d * d = n * lowDen n d := by
  have e1 := low_num_eq n d
  have e2 := low_den_eq n d
  generalize (Int.gcd n d : Int) = g at *
  generalize lowNum n d = p at *
  generalize lowDen n d = q at *
  subst e1 e2
  rw [Int.mul_left_comm, Int.mul_assoc]
theorem sign_scale {a b c e : Int} (hc : 0 < c) (he : 0 < e) (h : a * c = b * e) : a.sign = b.sign := by
  have h1 := congrArg Int.sign h
  rw [Int.sign_mul, Int.sign_mul, Int.sign_eq_one_of_pos hc, Int.sign_eq_one_of_pos he, Int.mul_one, Int.mul_one] at h1
  exact h1
/-- Comparing u p^2 / q^2 with n, in lowest terms. -/
theorem cmp_sign {u p q n N D : Int} (hq : 0 < q * q) (hD : 0 < D) (h : N * (q * q) = u * (p * p) * D) : (N - n * D).sign = (u * (p * p) - n * (q * q)).sign := by
  refine sign_scale hq hD ?_
  rw [Int.sub_mul, Int.sub_mul, h, Int.mul_right_comm n D]
end Go.Plain
