/- Plain facts: intervals of fractions, cut by constraints; one by one or all at once. -/
import Derived.Test.YtnamnocgjggnmaaDoorM
namespace Go.Plain
abbrev Qn : Type := Int × Int
def ltQ (x y : Qn) : Prop := x.1 * y.2 < y.1 * x.2
instance (x y : Qn) : Decidable (ltQ x y) := by unfold ltQ; infer_instance
def mxQ (x y : Qn) : Qn := if ltQ x y then y else x
def mnQ (x y : Qn) : Qn := if ltQ y x then y else x
abbrev Iv : Type := Qn × Qn
def andS (s o : Iv) : Iv := (mxQ s.1 o.1, mnQ s.2 o.2)
def empS (s : Iv) : Prop := ltQ s.2 s.1
instance (s : Iv) : Decidable (empS s) := by unfold empS; infer_instance
def lowQ (n d : Int) : Qn := (lowNum n d, lowDen n d)
def nevS : Iv := ((1, 1), (0, 1))
/-- The factors f of an interval with f n at most m. -/
def amS (s : Iv) (n m : Int) : Iv := if n > 0 then (s.1, mnQ s.2 (lowQ m n)) else if n < 0 then (mxQ s.1 (lowQ (-m) (-n)), s.2) else if m < 0 then nevS else s
def atS (F : Iv) (e x y : Int) : Iv := amS (amS F (x - e) (y + e)) (-x - e) (e - y)
def limS (s : Iv) (n m : Int) : Option Iv := if n = 0 ∧ m < 0 then none else if empS (amS s n m) then none else some (amS s n m)
def stepR (s : Iv) (e x y : Int) : Option Iv := (limS s (x - e) (y + e)).bind fun s => limS s (-x - e) (e - y)
abbrev posQ (x : Qn) : Prop := 0 < x.2
abbrev posS (s : Iv) : Prop := posQ s.1 ∧ posQ s.2

theorem lt_of_le_lt {x y z : Qn} (hx : posQ x) (hy : posQ y) (hz : posQ z) (h1 : ¬ ltQ y x) (h2 : ltQ y z) : ltQ x z := by
  unfold ltQ at *
  obtain ⟨a, b⟩ := x
  obtain ⟨c, d⟩ := y
  obtain ⟨p, q⟩ := z
  simp only at *
  refine Int.lt_of_mul_lt_mul_right (a := d) ?_ (by omega)
  have e1 : a * d * q ≤ c * b * q := Int.mul_le_mul_of_nonneg_right (by omega) (by omega)
  have e2 : c * q * b < p * d * b := Int.mul_lt_mul_of_pos_right h2 hx
  rw [Int.mul_right_comm a q d, Int.mul_right_comm p b d]
  rw [Int.mul_right_comm c b q] at e1
  omega
theorem lt_of_lt_le {x y z : Qn} (hx : posQ x) (hy : posQ y) (hz : posQ z) (h1 : ltQ x y) (h2 : ¬ ltQ z y) : ltQ x z := by
  unfold ltQ at *
  obtain ⟨a, b⟩ := x
  obtain ⟨c, d⟩ := y
  obtain ⟨p, q⟩ := z
  simp only at *
  refine Int.lt_of_mul_lt_mul_right (a := d) ?_ (by omega)
  have e1 : a * d * q < c * b * q := Int.mul_lt_mul_of_pos_right h1 hz
  have e2 : c * q * b ≤ p * d * b := Int.mul_le_mul_of_nonneg_right (by omega) (by omega)
  rw [Int.mul_right_comm a q d, Int.mul_right_comm p b d]
  rw [Int.mul_right_comm c b q] at e1
  omega
theorem lt_irr (x : Qn) : ¬ ltQ x x := by unfold ltQ; omega
theorem lt_asym {x y : Qn} (h : ltQ x y) : ¬ ltQ y x := by unfold ltQ at *; omega
theorem le_trans' {x y z : Qn} (hx : posQ x) (hy : posQ y) (hz : posQ z) (h1 : ¬ ltQ y x) (h2 : ¬ ltQ z y) : ¬ ltQ z x := fun h => h2 (lt_of_lt_le hz hx hy h h1)
theorem mx_pos {x y : Qn} (hx : posQ x) (hy : posQ y) : posQ (mxQ x y) := by unfold mxQ; split <;> assumption
theorem mn_pos {x y : Qn} (hx : posQ x) (hy : posQ y) : posQ (mnQ x y) := by unfold mnQ; split <;> assumption
theorem mx_l {x y : Qn} : ¬ ltQ (mxQ x y) x := by
  unfold mxQ; split
  · rename_i h; exact lt_asym h
  · exact lt_irr x
theorem mx_r {x y : Qn} : ¬ ltQ (mxQ x y) y := by
  unfold mxQ; split
  · exact lt_irr y
  · assumption
theorem mn_l {x y : Qn} : ¬ ltQ x (mnQ x y) := by
  unfold mnQ; split
  · rename_i h; exact lt_asym h
  · exact lt_irr x
theorem mn_r {x y : Qn} : ¬ ltQ y (mnQ x y) := by
  unfold mnQ; split
  · exact lt_irr y
  · assumption
theorem mx_assoc {x y z : Qn} (hx : posQ x) (hy : posQ y) (hz : posQ z) : mxQ (mxQ x y) z = mxQ x (mxQ y z) := by
  by_cases h1 : ltQ x y
  · rw [show mxQ x y = y from if_pos h1]
    by_cases h2 : ltQ y z
    · rw [show mxQ y z = z from if_pos h2, show mxQ x z = z from if_pos (lt_of_le_lt hx hy hz (lt_asym h1) h2)]
    · rw [show mxQ y z = y from if_neg h2, show mxQ x y = y from if_pos h1]
  · rw [show mxQ x y = x from if_neg h1]
    by_cases h2 : ltQ y z
    · rw [show mxQ y z = z from if_pos h2]
    · rw [show mxQ y z = y from if_neg h2, show mxQ x y = x from if_neg h1]
      exact if_neg (fun h => h2 (lt_of_le_lt hy hx hz h1 h))
theorem mn_assoc {x y z : Qn} (hx : posQ x) (hy : posQ y) (hz : posQ z) : mnQ (mnQ x y) z = mnQ x (mnQ y z) := by
  by_cases h1 : ltQ y x
  · rw [show mnQ x y = y from if_pos h1]
    by_cases h2 : ltQ z y
    · rw [show mnQ y z = z from if_pos h2, show mnQ x z = z from if_pos (lt_of_lt_le hz hy hx h2 (lt_asym h1))]
    · rw [show mnQ y z = y from if_neg h2, show mnQ x y = y from if_pos h1]
  · rw [show mnQ x y = x from if_neg h1]
    by_cases h2 : ltQ z y
    · rw [show mnQ y z = z from if_pos h2]
    · rw [show mnQ y z = y from if_neg h2, show mnQ x y = x from if_neg h1]
      exact if_neg (fun h => h2 (lt_of_lt_le hz hx hy h h1))
theorem lowQ_pos {n d : Int} (h : 0 < d) : posQ (lowQ n d) := lowDen_pos h
theorem nev_pos : posS nevS := ⟨by decide, by decide⟩
theorem am_pos {s : Iv} {n m : Int} (h : posS s) : posS (amS s n m) := by
  unfold amS
  split
  · exact ⟨h.1, mn_pos h.2 (lowQ_pos (by omega))⟩
  · split
    · exact ⟨mx_pos h.1 (lowQ_pos (by omega)), h.2⟩
    · split
      · exact nev_pos
      · exact h
theorem and_pos {s o : Iv} (h : posS s) (k : posS o) : posS (andS s o) := ⟨mx_pos h.1 k.1, mn_pos h.2 k.2⟩
theorem at_pos {F : Iv} {e x y : Int} (h : posS F) : posS (atS F e x y) := am_pos (am_pos h)
/-- o lies within s. -/
def within (o s : Iv) : Prop := ¬ ltQ o.1 s.1 ∧ ¬ ltQ s.2 o.2
theorem within_emp {o s : Iv} (ho : posS o) (hs : posS s) (h : within o s) (he : empS s) : empS o := by
  unfold empS at *
  exact lt_of_lt_le ho.2 hs.1 ho.1 (lt_of_le_lt ho.2 hs.2 hs.1 h.2 he) h.1
theorem within_refl (s : Iv) : within s s := ⟨lt_irr _, lt_irr _⟩
theorem within_trans {a b c : Iv} (ha : posS a) (hb : posS b) (hc : posS c) (h : within a b) (k : within b c) : within a c :=
  ⟨le_trans' hc.1 hb.1 ha.1 k.1 h.1, le_trans' ha.2 hb.2 hc.2 h.2 k.2⟩
theorem and_within_l (s o : Iv) : within (andS s o) s := ⟨mx_l, mn_l⟩
theorem and_within_r (s o : Iv) : within (andS s o) o := ⟨mx_r, mn_r⟩
theorem am_within {s : Iv} {n m : Int} (h : ¬ (n = 0 ∧ m < 0)) : within (amS s n m) s := by
  unfold amS
  split
  · exact ⟨lt_irr _, mn_l⟩
  · split
    · exact ⟨mx_l, lt_irr _⟩
    · rw [if_neg (by omega)]; exact within_refl s
theorem am_emp {s : Iv} {n m : Int} (hp : posS s) (h : empS s) : empS (amS s n m) := by
  by_cases k : n = 0 ∧ m < 0
  · unfold amS; rw [if_neg (by omega), if_neg (by omega), if_pos k.2]; decide
  · exact within_emp (am_pos hp) hp (am_within k) h
theorem and_self_of {s F : Iv} (h : within s F) : andS s F = s := by
  unfold andS mxQ mnQ
  rw [if_neg h.1, if_neg h.2]
theorem am_and {s F : Iv} {n m : Int} (hs : posS s) (hF : posS F) (h : ¬ (n = 0 ∧ m < 0)) : amS (andS s F) n m = andS s (amS F n m) := by
  unfold amS
  by_cases h1 : n > 0
  · rw [if_pos h1, if_pos h1]
    unfold andS
    rw [mn_assoc hs.2 hF.2 (lowQ_pos (by omega))]
  · rw [if_neg h1, if_neg h1]
    by_cases h2 : n < 0
    · rw [if_pos h2, if_pos h2]
      unfold andS
      rw [mx_assoc hs.1 hF.1 (lowQ_pos (by omega))]
    · rw [if_neg h2, if_neg h2, if_neg (by omega), if_neg (by omega)]
theorem step_eq {s F : Iv} {e x y : Int} (hs : posS s) (hF : posS F) (hw : within s F) (_hne : ¬ empS s) :
    (∃ o, stepR s e x y = some o ∧ andS s (atS F e x y) = o ∧ ¬ empS o ∧ within o s) ∨ (stepR s e x y = none ∧ empS (andS s (atS F e x y))) := by
  unfold stepR atS
  by_cases k1 : x - e = 0 ∧ y + e < 0
  · right
    have hn : empS (amS F (x - e) (y + e)) := by unfold amS; rw [if_neg (by omega), if_neg (by omega), if_pos k1.2]; decide
    have hp := am_pos (n := x - e) (m := y + e) hF
    refine ⟨by unfold limS; rw [if_pos k1]; (first | done | rfl), within_emp (and_pos hs (am_pos hp)) (am_pos hp) (and_within_r _ _) (am_emp hp hn)⟩
  · have e1 : andS s (amS F (x - e) (y + e)) = amS s (x - e) (y + e) := by rw [← am_and hs hF k1, and_self_of hw]
    have hp1 := am_pos (n := x - e) (m := y + e) hs
    have hpF := am_pos (n := x - e) (m := y + e) hF
    have w1 : within (amS s (x - e) (y + e)) s := am_within k1
    by_cases k2 : -x - e = 0 ∧ e - y < 0
    · right
      have hn : empS (amS (amS F (x - e) (y + e)) (-x - e) (e - y)) := by
        generalize amS F (x - e) (y + e) = G
        unfold amS; rw [if_neg (by omega), if_neg (by omega), if_pos k2.2]; decide
      refine ⟨?_, within_emp (and_pos hs (am_pos hpF)) (am_pos hpF) (and_within_r _ _) hn⟩
      unfold limS
      rw [if_neg k1]
      split
      · rfl
      · simp only [Option.bind_some]
    · have e2 : andS s (amS (amS F (x - e) (y + e)) (-x - e) (e - y)) = amS (amS s (x - e) (y + e)) (-x - e) (e - y) := by rw [← am_and hs hpF k2, e1]
      rw [e2]
      have hp2 := am_pos (n := -x - e) (m := e - y) hp1
      have w2 : within (amS (amS s (x - e) (y + e)) (-x - e) (e - y)) (amS s (x - e) (y + e)) := am_within k2
      unfold limS
      rw [if_neg k1]
      by_cases h1 : empS (amS s (x - e) (y + e))
      · right
        rw [if_pos h1]
        exact ⟨rfl, am_emp hp1 h1⟩
      · rw [if_neg h1]
        simp only [Option.bind_some]
        rw [if_neg k2]
        by_cases h2 : empS (amS (amS s (x - e) (y + e)) (-x - e) (e - y))
        · right; rw [if_pos h2]; exact ⟨rfl, h2⟩
        · left
          rw [if_neg h2]
          exact ⟨_, rfl, rfl, h2, within_trans hp2 hp1 hs w2 w1⟩
/-- All at once. -/
def allS (F : Iv) (e : Int) : List (Int × Int) → Iv → Iv
  | [], s => s
  | p :: l, s => allS F e l (andS s (atS F e p.1 p.2))
/-- One by one. -/
def oneS (e : Int) : List (Int × Int) → Option Iv → Option Iv
  | [], s => s
  | p :: l, s => oneS e l (s.bind fun s => stepR s e p.1 p.2)
theorem one_none (e : Int) : ∀ l, oneS e l none = none
  | [] => rfl
  | _ :: l => one_none e l
theorem all_within {F : Iv} {e : Int} (hF : posS F) : ∀ (l : List (Int × Int)) {s : Iv}, posS s → within (allS F e l s) s ∧ posS (allS F e l s)
  | [], _, hs => ⟨within_refl _, hs⟩
  | p :: l, s, hs => by
    have hp := and_pos hs (at_pos (e := e) (x := p.1) (y := p.2) hF)
    obtain ⟨h1, h2⟩ := all_within hF l hp
    exact ⟨within_trans h2 hp hs h1 (and_within_l _ _), h2⟩
theorem all_one {F : Iv} {e : Int} (hF : posS F) : ∀ (l : List (Int × Int)) {s : Iv}, posS s → within s F → ¬ empS s → (∃ o, oneS e l (some s) = some o ∧ allS F e l s = o ∧ ¬ empS o) ∨ (oneS e l (some s) = none ∧ empS (allS F e l s))
  | [], s, _, _, hne => .inl ⟨s, rfl, rfl, hne⟩
  | p :: l, s, hs, hw, hne => by
    have hp := and_pos hs (at_pos (e := e) (x := p.1) (y := p.2) hF)
    rcases step_eq (e := e) (x := p.1) (y := p.2) hs hF hw hne with ⟨o, h1, h2, h3, h4⟩ | ⟨h1, h2⟩
    · rw [h2] at hp
      have := all_one (e := e) hF l hp (within_trans hp hs hF h4 hw) h3
      simp only [oneS, allS, Option.bind_some, h1, h2]
      exact this
    · right
      simp only [oneS, allS, Option.bind_some, h1]
      obtain ⟨w, hp2⟩ := all_within (e := e) hF l hp
      exact ⟨one_none e l, within_emp hp2 hp w h2⟩
end Go.Plain

/- Plain facts: intervals with a common factor; of intervals without one there are two without one. -/
namespace Go.Plain
theorem allS_lo {F : Iv} {e : Int} : ∀ (l : List (Int × Int)) (s : Iv), (allS F e l s).1 = s.1 ∨ ∃ p ∈ l, (allS F e l s).1 = (atS F e p.1 p.2).1
  | [], _ => .inl rfl
  | p :: l, s => by
    rcases allS_lo l (andS s (atS F e p.1 p.2)) with h | ⟨q, hq, h⟩
    · have : (andS s (atS F e p.1 p.2)).1 = s.1 ∨ (andS s (atS F e p.1 p.2)).1 = (atS F e p.1 p.2).1 := by
        unfold andS mxQ; dsimp only; split
        · exact .inr rfl
        · exact .inl rfl
      rcases this with g | g
      · exact .inl (h.trans g)
      · exact .inr ⟨p, List.mem_cons_self .., h.trans g⟩
    · exact .inr ⟨q, List.mem_cons_of_mem _ hq, h⟩
theorem allS_hi {F : Iv} {e : Int} : ∀ (l : List (Int × Int)) (s : Iv), (allS F e l s).2 = s.2 ∨ ∃ p ∈ l, (allS F e l s).2 = (atS F e p.1 p.2).2
  | [], _ => .inl rfl
  | p :: l, s => by
    rcases allS_hi l (andS s (atS F e p.1 p.2)) with h | ⟨q, hq, h⟩
    · have : (andS s (atS F e p.1 p.2)).2 = s.2 ∨ (andS s (atS F e p.1 p.2)).2 = (atS F e p.1 p.2).2 := by
        unfold andS mnQ; dsimp only; split
        · exact .inr rfl
        · exact .inl rfl
      rcases this with g | g
      · exact .inl (h.trans g)
      · exact .inr ⟨p, List.mem_cons_self .., h.trans g⟩
    · exact .inr ⟨q, List.mem_cons_of_mem _ hq, h⟩
theorem emp_of {o : Iv} {a b : Qn} (ho : posS o) (ha : posQ a) (hb : posQ b) (h1 : ¬ ltQ o.1 a) (h2 : ¬ ltQ b o.2) (h : ltQ b a) : empS o :=
  lt_of_lt_le ho.2 ha ho.1 (lt_of_le_lt ho.2 hb ha h2 h) h1
/-- A number in an interval. -/
def inS (x : Qn) (s : Iv) : Prop := ¬ ltQ x s.1 ∧ ¬ ltQ s.2 x
theorem inS_ne {x : Qn} {s : Iv} (hx : posQ x) (hs : posS s) (h : inS x s) : ¬ empS s := fun he => h.1 (lt_of_le_lt hx hs.2 hs.1 h.2 he)
theorem inS_and {x : Qn} {s o : Iv} (h : inS x s) (k : inS x o) : inS x (andS s o) := by
  unfold andS mxQ mnQ
  refine ⟨?_, ?_⟩
  · dsimp only; split
    · exact k.1
    · exact h.1
  · dsimp only; split
    · exact k.2
    · exact h.2
theorem inS_am {k n m : Int} {s : Iv} (h : inS (k, 1) s) (hm : k * n ≤ m) : inS (k, 1) (amS s n m) := by
  unfold amS
  split
  · rename_i hn
    refine ⟨h.1, ?_⟩
    unfold mnQ
    split
    · -- k is at most m / n
      have e1 := low_num_eq m n
      have e2 := low_den_eq m n
      have hg : (0 : Int) < Int.gcd m n := by
        have := Int.gcd_pos_of_ne_zero_right m (show n ≠ 0 by omega); omega
      show ¬ lowNum m n * 1 < k * lowDen m n
      rw [Int.mul_one]
      intro hlt
      have := Int.mul_lt_mul_of_pos_left hlt hg
      rw [← e1, Int.mul_left_comm, ← e2] at this
      omega
    · exact h.2
  · split
    · rename_i hn
      refine ⟨?_, h.2⟩
      unfold mxQ
      split
      · have e1 := low_num_eq (-m) (-n)
        have e2 := low_den_eq (-m) (-n)
        have hg : (0 : Int) < Int.gcd (-m) (-n) := by
          have := Int.gcd_pos_of_ne_zero_right (-m) (show -n ≠ 0 by omega); omega
        show ¬ k * lowDen (-m) (-n) < lowNum (-m) (-n) * 1
        rw [Int.mul_one]
        intro hlt
        have := Int.mul_lt_mul_of_pos_left hlt hg
        rw [← e1, Int.mul_left_comm, ← e2, Int.mul_neg] at this
        omega
      · exact h.1
    · split
      · exfalso
        obtain rfl : n = 0 := by omega
        rw [Int.mul_zero] at hm
        omega
      · exact h
theorem inS_at {k e x y : Int} {F : Iv} (h : inS (k, 1) F) (h1 : k * (x - e) ≤ y + e) (h2 : k * (-x - e) ≤ e - y) : inS (k, 1) (atS F e x y) := inS_am (inS_am h h1) h2
theorem inS_all {k e : Int} {F : Iv} (hF : inS (k, 1) F) : ∀ (l : List (Int × Int)) (s : Iv), inS (k, 1) s → (∀ p ∈ l, k * (p.1 - e) ≤ p.2 + e ∧ k * (-p.1 - e) ≤ e - p.2) → inS (k, 1) (allS F e l s)
  | [], _, h, _ => h
  | p :: l, _, h, hp => inS_all hF l _ (inS_and h (inS_at hF (hp p (List.mem_cons_self ..)).1 (hp p (List.mem_cons_self ..)).2)) fun p hq => hp p (List.mem_cons_of_mem _ hq)
end Go.Plain
