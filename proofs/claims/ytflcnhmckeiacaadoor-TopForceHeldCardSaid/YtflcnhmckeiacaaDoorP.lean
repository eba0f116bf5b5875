/- Plain facts: intervals of fractions, cut by constraints; one by one or all at once. -/
import Derived.Test.YtflcnhmckeiacaaDoorM
namespace Go.Plain
abbrev Qn : Type := Int × Int
def ltQ (x y : Qn) : Prop := x.1 * y.2 < y.1 * x.2
instance (x y : Qn) : Decidable (ltQ x y) := by unfold ltQ; infer_instance
def mxQ (x y : Qn) : Qn := if ltQ x y then y else x
def mnQ (x y : Qn) : Qn := if ltQ y x then y else x
abbrev Iv : Type := Qn × Qn
def andS (s o : Iv) : Iv := (mxQ s.1 o.1, mnQ s.2 o.2)
def empS (s : Iv) : Prop := ltQ s.2 s.1
instance (s : Iv) : Decidable (empS s) := by unfold empS; infer_instance
def lowQ (n d : Int) : Qn := (lowNum n d, lowDen n d)
def nevS : Iv := ((1, 1), (0, 1))
/-- The factors f of an interval with f n at most m. -/
def amS (s : Iv) (n m : Int) : Iv := if n > 0 then (s.1, mnQ s.2 (lowQ m n)) else if n < 0 then (mxQ s.1 (lowQ (-m) (-n)), s.2) else if m < 0 then nevS else s
def atS (F : Iv) (e x y : Int) : Iv := amS (amS F (x - e) (y + e)) (-x - e) (e - y)
def limS (s : Iv) (n m : Int) : Option Iv := if n = 0 ∧ m < 0 then none else if empS (amS s n m) then none else some (amS s n m)
def stepR (s : Iv) (e x y : Int) : Option Iv := (limS s (x - e) (y + e)).bind fun s => limS s (-x - e) (e - y)
abbrev posQ (x : Qn) : Prop := 0 < x.2
abbrev posS (s : Iv) : Prop := posQ s.1 ∧ posQ s.2

theorem lt_of_le_lt {x y z : Qn} (hx : posQ x) (hy : posQ y) (hz : posQ z) (h1 : ¬ ltQ y x) (h2 : ltQ y z) : ltQ x z := by
  unfold ltQ at *
  obtain ⟨a, b⟩ := x
  obtain ⟨c, d⟩ := y
  obtain ⟨p, q⟩ := z
  simp only at *
  refine Int.lt_of_mul_lt_mul_right (a := d) ?_ (by omega)
  have e1 : a * d * q ≤ c * b * q := Int.mul_le_mul_of_nonneg_right (by omega) (by omega)
  have e2 : c * q * b < p * d * b := Int.mul_lt_mul_of_pos_right h2 hx
  rw [Int.mul_right_comm a q d, Int.mul_right_comm p b d]
  rw [Int.mul_right_comm c b q] at e1
  omega
theorem lt_of_lt_le {x y z : Qn} (hx : posQ x) (hy : posQ y) (hz : posQ z) (h1 : ltQ x y) (h2 : ¬ ltQ z y) : ltQ x z := by
  unfold ltQ at *
  obtain ⟨a, b⟩ := x
  obtain ⟨c, d⟩ := y
  obtain ⟨p, q⟩ := z
  simp only at *
  refine Int.lt_of_mul_lt_mul_right (a := d) ?_ (by omega)
  have e1 : a * d * q < c * b * q := Int.mul_lt_mul_of_pos_right h1 hz
  have e2 : c * q * b ≤ p * d * b := Int.mul_le_mul_of_nonneg_right (by omega) (by omega)
  rw [Int.mul_right_comm a q d, Int.mul_right_comm p b d]
  rw [Int.mul_right_comm c b q] at e1
  omega
theorem lt_irr (x : Qn) : ¬ ltQ x x := by unfold ltQ; omega
theorem lt_asym {x y : Qn} (h : ltQ x y) : ¬ ltQ y x := by unfold ltQ at *; omega
theorem le_trans' {x y z : Qn} (hx : posQ x) (hy : posQ y) (hz : posQ z) (h1 : ¬ ltQ y x) (h2 : ¬ ltQ z y) : ¬ ltQ z x := fun h => h2 (lt_of_lt_le hz hx hy h h1)
theorem mx_pos {x y : Qn} (hx : posQ x) (hy : posQ y) : posQ (mxQ x y) := by unfold mxQ; split <;> assumption
theorem mn_pos {x y : Qn} (hx : posQ x) (hy : posQ y) : posQ (mnQ x y) := by unfold mnQ; split <;> assumption
theorem mx_l {x y : Qn} : ¬ ltQ (mxQ x y) x := by
  unfold mxQ; split
  · rename_i h; exact lt_asym h
  · exact lt_irr x
theorem mx_r {x y : Qn} : ¬ ltQ (mxQ x y) y := by
  unfold mxQ; split
  · exact lt_irr y
  · assumption
theorem mn_l {x y : Qn} : ¬ ltQ x (mnQ x y) := by
  unfold mnQ; split
  · rename_i h; exact lt_asym h
  · exact lt_irr x
theorem mn_r {x y : Qn} : ¬ ltQ y (mnQ x y) := by
  unfold mnQ; split
  · exact lt_irr y
  · assumption
theorem mx_assoc {x y z : Qn} (hx : posQ x) (hy : posQ y) (hz : posQ z) : mxQ (mxQ x y) z = mxQ x (mxQ y z) := by
  by_cases h1 : ltQ x y
  · rw [show mxQ x y = y from if_pos h1]
    by_cases h2 : ltQ y z
    · rw [show mxQ y z = z from if_pos h2, show mxQ x z = z from if_pos (lt_of_le_lt hx hy hz (lt_asym h1) h2)]
    · rw [show mxQ y z = y from if_neg h2, show mxQ x y = y from if_pos h1]
  · rw [show mxQ x y = x from if_neg h1]
    by_cases h2 : ltQ y z
    · rw [show mxQ y z = z from if_pos h2]
    · rw [show mxQ y z = y from if_neg h2, show mxQ x y = x from if_neg h1]
      exact if_neg (fun h => h2 (lt_of_le_lt hy hx hz h1 h))
theorem mn_assoc {x y z : Qn} (hx : posQ x) (hy : posQ y) (hz : posQ z) : mnQ (mnQ x y) z = mnQ x (mnQ y z) := by
  by_cases h1 : ltQ y x
  · rw [show mnQ x y = y from if_pos h1]
    by_cases h2 : ltQ z y
    · rw [show mnQ y z = z from if_pos h2, show mnQ x z = z from if_pos (lt_of_lt_le hz hy hx h2 (lt_asym h1))]
    · rw [show mnQ y z = y from if_neg h2, show mnQ x y = y from if_pos h1]
  · rw [show mnQ x y = x from if_neg h1]
    by_cases h2 : ltQ z y
    · rw [show mnQ y z = z from if_pos h2]
    · rw [show mnQ y z = y from if_neg h2, show mnQ x y = x from if_neg h1]
      exact if_neg (fun h => h2 (lt_of_lt_le hz hx hy h h1))
theorem lowQ_pos {n d : Int} (h : 0 < d) : posQ (lowQ n d) := lowDen_pos h
theorem nev_pos : posS nevS := ⟨by decide, by decide⟩
theorem am_pos {s : Iv} {n m : Int} (h : posS s) : posS (amS s n m) := by
  unfold amS
  split
  · exact ⟨h.1, mn_pos h.2 (lowQ_pos (by omega))⟩
  · split
    · exact ⟨mx_pos h.1 (lowQ_pos (by omega)), h.2⟩
    · split
      · exact nev_pos
      · exact h
theorem and_pos {s o : Iv} (h : posS s) (k : posS o) : posS (andS s o) := ⟨mx_pos h.1 k.1, mn_pos h.2 k.2⟩
theorem at_pos {F : Iv} {e x y : Int} (h : posS F) : posS (atS F e x y) := am_pos (am_pos h)
/-- o lies within s. -/
def within (o s : Iv) : Prop := ¬ ltQ o.1 s.1 ∧ ¬ ltQ s.2 o.2
theorem within_emp {o s : Iv} (ho : posS o) (hs : posS s) (h : within o s) (he : empS s) : empS o := by
  unfold empS at *
  exact lt_of_lt_le ho.2 hs.1 ho.1 (lt_of_le_lt ho.2 hs.2 hs.1 h.2 he) h.1
theorem within_refl (s : Iv) : within s s := ⟨lt_irr _, lt_irr _⟩
theorem within_trans {a b c : Iv} (ha : posS a) (hb : posS b) (hc : posS c) (h : within a b) (k : within b c) : within a c :=
  ⟨le_trans' hc.1 hb.1 ha.1 k.1 h.1, le_trans' ha.2 hb.2 hc.2 h.2 k.2⟩
theorem and_within_l (s o : Iv) : within (andS s o) s := ⟨mx_l, mn_l⟩
theorem and_within_r (s o : Iv) : within (andS s o) o := ⟨mx_r, mn_r⟩
theorem am_within {s : Iv} {n m : Int} (h : ¬ (n = 0 ∧ m < 0)) : within (amS s n m) s := by
  unfold amS
  split
  · exact ⟨lt_irr _, mn_l⟩
  · split
    · exact ⟨mx_l, lt_irr _⟩
    · rw [if_neg (by omega)]; exact within_refl s
theorem am_emp {s : Iv} {n m : Int} (hp : posS s) (h : empS s) : empS (amS s n m) := by
  by_cases k : n = 0 ∧ m < 0
  · unfold amS; rw [if_neg (by omega), if_neg (by omega), if_pos k.2]; decide
  · exact within_emp (am_pos hp) hp (am_within k) h
theorem and_self_of {s F : Iv} (h : within s F) : andS s F = s := by
  unfold andS mxQ mnQ
  rw [if_neg h.1, if_neg h.2]
theorem am_and {s F : Iv} {n m : Int} (hs : posS s) (hF : posS F) (h : ¬ (n = 0 ∧ m < 0)) : amS (andS s F) n m = andS s (amS F n m) := by
  unfold amS
  by_cases h1 : n > 0
  · rw [if_pos h1, if_pos h1]
    unfold andS
    rw [mn_assoc hs.2 hF.2 (lowQ_pos (by omega))]
  · rw [if_neg h1, if_neg h1]
    by_cases h2 : n < 0
    · rw [if_pos h2, if_pos h2]
      unfold andS
      rw [mx_assoc hs.1 hF.1 (lowQ_pos (by omega))]
    · rw [if_neg h2, if_neg h2, if_neg (by omega), if_neg (by omega)]
theorem step_eq {s F : Iv} {e x y : Int} (hs : posS s) (hF : posS F) (hw : within s F) (_hne : ¬ empS s) :
    (∃ o, stepR s e x y = some o ∧ andS s (atS F e x y) = o ∧ ¬ empS o ∧ within o s) ∨ (stepR s e x y = none ∧ empS (andS s (atS F e x y))) := by
  unfold stepR atS
  by_cases k1 : x - e = 0 ∧ y + e < 0
  · right
    have hn : empS (amS F (x - e) (y + e)) := by unfold amS; rw [if_neg (by omega), if_neg (by omega), if_pos k1.2]; decide
    have hp := am_pos (n := x - e) (m := y + e) hF
    refine ⟨by unfold limS; rw [if_pos k1]; (first | done | rfl), within_emp (and_pos hs (am_pos hp)) (am_pos hp) (and_within_r _ _) (am_emp hp hn)⟩
  · have e1 : andS s (amS F (x - e) (y + e)) = amS s (x - e) (y + e) := by rw [← am_and hs hF k1, and_self_of hw]
    have hp1 := am_pos (n := x - e) (m := y + e) hs
    have hpF := am_pos (n := x - e) (m := y + e) hF
    have w1 : within (amS s (x - e) (y + e)) s := am_within k1
    by_cases k2 : -x - e = 0 ∧ e - y < 0
    · right
      have hn : empS (amS (amS F (x - e) (y + e)) (-x - e) (e - y)) := by
        generalize amS F (x - e) (y + e) = G
        unfold amS; rw [if_neg (by omega), if_neg (by omega), if_pos k2.2]; decide
      refine ⟨?_, within_emp (and_pos hs (am_pos hpF)) (am_pos hpF) (and_within_r _ _) hn⟩
      unfold limS
      rw [if_neg k1]
      split
      · rfl
      · simp only [Option.bind_some]
    · have e2 : andS s (amS (amS F (x - e) (y + e)) (-x - e) (e - y)) = amS (amS s (x - e) (y + e)) (-x - e) (e - y) := by rw [← am_and hs hpF k2, e1]
      rw [e2]
      have hp2 := am_pos (n := -x - e) (m := e - y) hp1
      have w2 : within (amS (amS s (x - e) (y + e)) (-x - e) (e - y)) (amS s (x - e) (y + e)) := am_within k2
      unfold limS
      rw [if_neg k1]
      by_cases h1 : empS (amS s (x - e) (y + e))
      · right
        rw [if_pos h1]
        exact ⟨rfl, am_emp hp1 h1⟩
      · rw [if_neg h1]
        simp only [Option.bind_some]
        rw [if_neg k2]
        by_cases h2 : empS (amS (amS s (x - e) (y + e)) (-x - e) (e - y))
        · right; rw [if_pos h2]; exact ⟨rfl, h2⟩
        · left
          rw [if_neg h2]
          exact ⟨_, rfl, rfl, h2, within_trans hp2 hp1 hs w2 w1⟩
/-- All at once. -/
def allS (F : Iv) (e : Int) : List (Int × Int) → Iv → Iv
  | [], s => s
  | p :: l, s => allS F e l (andS s (atS F e p.1 p.2))
/-- One by one. -/
def oneS (e : Int) : List (Int × Int) → Option Iv → Option Iv
  | [], s => s
  | p :: l, s => oneS e l (s.bind fun s => stepR s e p.1 p.2)
theorem one_none (e : Int) : ∀ l, oneS e l none = none
  | [] => rfl
  | _ :: l => one_none e l
theorem all_within {F : Iv} {e : Int} (hF : posS F) : ∀ (l : List (Int × Int)) {s : Iv}, posS s → within (allS F e l s) s ∧ posS (allS F e l s)
  | [], _, hs => ⟨within_refl _, hs⟩
  | p :: l, s, hs => by
    have hp := and_pos hs (at_pos (e := e) (x := p.1) (y := p.2) hF)
    obtain ⟨h1, h2⟩ := all_within hF l hp
    exact ⟨within_trans h2 hp hs h1 (and_within_l _ _), h2⟩
theorem all_one {F : Iv} {e : Int} (hF : posS F) : ∀ (l : List (Int × Int)) {s : Iv}, posS s → within s F → ¬ empS s → (∃ o, oneS e l (some s) = some o ∧ allS F e l s = o ∧ ¬ empS o) ∨ (oneS e l (some s) = none ∧ empS (allS F e l s))
  | [], s, _, _, hne => .inl ⟨s, rfl, rfl, hne⟩
  | p :: l, s, hs, hw, hne => by
    have hp := and_pos hs (at_pos (e := e) (x := p.1) (y := p.2) hF)
    rcases step_eq (e := e) (x := p.1) (y := p.2) hs hF hw hne with ⟨o, h1, h2, h3, h4⟩ | ⟨h1, h2⟩
    · rw [h2] at hp
      have := all_one (e := e) hF l hp (within_trans hp hs hF h4 hw) h3
      simp only [oneS, allS, Option.bind_some, h1, h2]
      exact this
    · right
      simp only [oneS, allS, Option.bind_some, h1]
      obtain ⟨w, hp2⟩ := all_within (e := e) hF l hp
      exact ⟨one_none e l, within_emp hp2 hp w h2⟩
end Go.Plain

/- Plain facts: the first greatest of a list, found by one pass, or by going on to the first greater one. -/
namespace Go.Plain
variable {α : Type}
/-- An order by a size. -/
structure Ord (lt : α → α → Bool) : Prop where
  irr : ∀ a, lt a a = false
  tr : ∀ a b c, lt a b = true → lt b c = true → lt a c = true
  st : ∀ a b c, lt a c = true → lt a b = true ∨ lt b c = true
theorem Ord.asym {lt : α → α → Bool} (h : Ord lt) {a b : α} (hab : lt a b = true) : lt b a = false := by
  cases hb : lt b a with
  | false => rfl
  | true => have := h.tr a b a hab hb; rw [h.irr] at this; cases this
/-- One pass: a later one counts only if it is greater. -/
def best (lt : α → α → Bool) : List α → α → α
  | [], m => m
  | x :: l, m => best lt l (if lt m x = true then x else m)
theorem best_snoc {lt : α → α → Bool} (l : List α) (x : α) : ∀ m, best lt (l ++ [x]) m = if lt (best lt l m) x = true then x else best lt l m := by
  induction l with
  | nil => intro m; rfl
  | cons y l ih => intro m; exact ih _
/-- c is the first one of its size, all before are less. -/
def First (lt : α → α → Bool) (L : List α) (c : α) : Prop := ∃ a b, L = a ++ c :: b ∧ ∀ x ∈ a, lt x c = true
theorem best_first {lt : α → α → Bool} (h : Ord lt) (m : α) : ∀ l : List α, First lt (m :: l) (best lt l m) ∧ ∀ x ∈ m :: l, lt (best lt l m) x = false := by
  intro l
  generalize hn : l.length = n
  induction n generalizing l with
  | zero =>
    obtain rfl : l = [] := List.eq_nil_of_length_eq_zero hn
    refine ⟨⟨[], [], rfl, by simp⟩, fun x hx => ?_⟩
    rw [List.mem_singleton] at hx
    subst hx; exact h.irr _
  | succ n ih =>
    rcases List.eq_nil_or_concat l with rfl | ⟨k, y, hk⟩
    · simp at hn
    · rw [List.concat_eq_append] at hk
      subst hk
      obtain ⟨⟨a, b, e, h1⟩, h2⟩ := ih k (by simp at hn; exact hn)
      rw [best_snoc]
      by_cases hy : lt (best lt k m) y = true
      · rw [if_pos hy]
        refine ⟨⟨m :: k, [], rfl, fun x hx => ?_⟩, fun x hx => ?_⟩
        · rcases h.st _ x _ hy with h3 | h3
          · rw [h2 x hx] at h3; cases h3
          · exact h3
        · rw [← List.cons_append] at hx
          rcases List.mem_append.1 hx with hx | hx
          · cases h3 : lt y x with
            | false => rfl
            | true => have := h.tr _ _ _ hy h3; rw [h2 x hx] at this; cases this
          · rw [List.mem_singleton] at hx; subst hx; exact h.irr _
      · rw [if_neg hy]
        refine ⟨⟨a, b ++ [y], by rw [← List.cons_append, e]; simp, h1⟩, fun x hx => ?_⟩
        rw [← List.cons_append] at hx
        rcases List.mem_append.1 hx with hx | hx
        · exact h2 x hx
        · rw [List.mem_singleton] at hx; subst hx
          cases h3 : lt (best lt k m) x with
          | false => rfl
          | true => exact absurd h3 hy
/-- The first greater one is the first of its size, if this one was. -/
theorem first_next {lt : α → α → Bool} (h : Ord lt) {L : List α} {c d : α} (hf : L.find? (fun x => lt c x) = some d) : First lt L d ∧ lt c d = true := by
  obtain ⟨h1, a, b, e, h2⟩ := List.find?_eq_some_iff_append.1 hf
  refine ⟨⟨a, b, e, fun x hx => ?_⟩, h1⟩
  have h3 := h2 x hx
  rcases h.st c x d h1 with h4 | h4
  · rw [h4] at h3; cases h3
  · exact h4
theorem first_unique {lt : α → α → Bool} (h : Ord lt) {L : List α} {c d : α} (hc : First lt L c) (hd : First lt L d) (mc : ∀ x ∈ L, lt c x = false) (md : ∀ x ∈ L, lt d x = false) : c = d := by
  obtain ⟨a, b, e1, h1⟩ := hc
  obtain ⟨a', b', e2, h2⟩ := hd
  have e : a ++ c :: b = a' ++ d :: b' := e1.symm.trans e2
  rcases List.append_eq_append_iff.1 e with ⟨k, e3, e4⟩ | ⟨k, e3, e4⟩
  · cases k with
    | nil => simp at e4; exact e4.1
    | cons y k =>
      have hy : c = y := by simpa using (List.cons.inj e4).1
      subst hy
      have := h2 c (by rw [e3]; simp)
      rw [mc d (by rw [e2]; simp)] at this; cases this
  · cases k with
    | nil => simp at e4; exact e4.1.symm
    | cons y k =>
      have hy : d = y := by simpa using (List.cons.inj e4).1
      subst hy
      have := h1 d (by rw [e3]; simp)
      rw [md c (by rw [e1]; simp)] at this; cases this
/-- How many are greater. -/
def above (lt : α → α → Bool) (L : List α) (c : α) : Nat := (L.filter (lt c)).length
theorem above_less {lt : α → α → Bool} (h : Ord lt) {c d : α} (hcd : lt c d = true) : ∀ {L : List α}, d ∈ L → above lt L d < above lt L c := by
  have le : ∀ L : List α, above lt L d ≤ above lt L c := by
    intro L
    induction L with
    | nil => exact Nat.le_refl _
    | cons x L ih =>
      unfold above at *
      by_cases h1 : lt d x = true
      · have h2 := h.tr _ _ _ hcd h1
        rw [List.filter_cons_of_pos h1, List.filter_cons_of_pos h2]; rw [List.length_cons, List.length_cons]; omega
      · rw [List.filter_cons_of_neg h1]
        by_cases h2 : lt c x = true
        · rw [List.filter_cons_of_pos h2]; rw [List.length_cons]; omega
        · rw [List.filter_cons_of_neg h2]; exact ih
  intro L
  induction L with
  | nil => intro hd; cases hd
  | cons x L ih =>
    intro hd
    rcases List.mem_cons.1 hd with rfl | hd
    · have := le L
      unfold above at *
      rw [List.filter_cons_of_neg (by rw [h.irr]; decide), List.filter_cons_of_pos hcd]; rw [List.length_cons]; omega
    · have ih := ih hd
      unfold above at *
      by_cases h1 : lt d x = true
      · have h2 := h.tr _ _ _ hcd h1
        rw [List.filter_cons_of_pos h1, List.filter_cons_of_pos h2]; rw [List.length_cons, List.length_cons]; omega
      · rw [List.filter_cons_of_neg h1]
        by_cases h2 : lt c x = true
        · rw [List.filter_cons_of_pos h2]; rw [List.length_cons]; omega
        · rw [List.filter_cons_of_neg h2]; exact ih
theorem none_above {lt : α → α → Bool} {L : List α} {c : α} (hf : L.find? (fun x => lt c x) = none) : ∀ x ∈ L, lt c x = false := by
  intro x hx
  have := List.find?_eq_none.1 hf x hx
  cases h : lt c x with
  | false => rfl
  | true => exact absurd h this
end Go.Plain

/- Plain facts: the cases of a design in their order, and loops over them. -/
namespace Go.Plain
/-- Kind, tap, shift, fault. -/
abbrev Ca : Type := Int × Int × Int × Int
def casF (k t : Nat) (s : Int) (F : Nat) : List Ca := (List.range F).map fun (f : Nat) => ((k : Int), (t : Int), s, (f : Int))
def casS (k t : Nat) (lo : Int) (S F : Nat) : List Ca := (List.range S).flatMap fun (s : Nat) => casF k t (lo + s) F
def casT (k T : Nat) (lo : Int) (S F : Nat) : List Ca := (List.range T).flatMap fun t => casS k t lo S F
def casK (K T : Nat) (lo : Int) (S F : Nat) : List Ca := (List.range K).flatMap fun k => casT k T lo S F
/-- All cases. -/
def casL (T : Nat) (lo hi : Int) (F : Nat) : List Ca := casK 4 T lo (hi - lo + 1).toNat F
theorem casF_succ (k t : Nat) (s : Int) (F : Nat) : casF k t s (F + 1) = casF k t s F ++ [((k : Int), (t : Int), s, (F : Int))] := by
  unfold casF; simp [List.range_succ]
theorem casS_succ (k t : Nat) (lo : Int) (S F : Nat) : casS k t lo (S + 1) F = casS k t lo S F ++ casF k t (lo + S) F := by
  unfold casS; simp [List.range_succ]
theorem casT_succ (k T : Nat) (lo : Int) (S F : Nat) : casT k (T + 1) lo S F = casT k T lo S F ++ casS k T lo S F := by
  unfold casT; simp [List.range_succ]
theorem casK_succ (K T : Nat) (lo : Int) (S F : Nat) : casK (K + 1) T lo S F = casK K T lo S F ++ casT K T lo S F := by
  unfold casK; simp [List.range_succ]
/-- What a case of a list is. -/
def CaOK (T : Nat) (lo hi : Int) (F : Nat) (c : Ca) : Prop := (0 ≤ c.1 ∧ c.1 ≤ 3) ∧ (0 ≤ c.2.1 ∧ c.2.1 < T) ∧ (lo ≤ c.2.2.1 ∧ c.2.2.1 ≤ hi) ∧ 0 ≤ c.2.2.2 ∧ c.2.2.2 < F
theorem casL_mem {T : Nat} {lo hi : Int} {F : Nat} {c : Ca} : c ∈ casL T lo hi F ↔ CaOK T lo hi F c := by
  unfold casL casK casT casS casF CaOK
  obtain ⟨a, b, s, f⟩ := c
  simp only [List.mem_flatMap, List.mem_range, List.mem_map, Prod.mk.injEq]
  constructor
  · rintro ⟨k, hk, t, ht, j, hj, g, hg, rfl, rfl, rfl, rfl⟩
    omega
  · rintro ⟨h1, h2, h3, h4⟩
    exact ⟨a.toNat, by omega, b.toNat, by omega, (s - lo).toNat, by omega, f.toNat, by omega, by omega, by omega, by omega, by omega⟩
theorem casL_head {T : Nat} {lo hi : Int} {F : Nat} (hT : 0 < T) (hs : lo ≤ hi) (hF : 0 < F) : ∃ l, casL T lo hi F = (0, 0, lo, 0) :: l := by
  obtain ⟨S, hS⟩ : ∃ S, (hi - lo + 1).toNat = S + 1 := ⟨(hi - lo + 1).toNat - 1, by omega⟩
  obtain ⟨T', rfl⟩ : ∃ x, T = x + 1 := ⟨T - 1, by omega⟩
  obtain ⟨F', rfl⟩ : ∃ x, F = x + 1 := ⟨F - 1, by omega⟩
  unfold casL
  rw [hS]
  unfold casK casT casS casF
  simp [List.range_succ_eq_map]
end Go.Plain

/- Plain facts: an order by fractions. -/
namespace Go.Plain
theorem ord_of {α : Type} {r : α → Qn} (h : ∀ a, posQ (r a)) : Ord fun a b => decide (ltQ (r a) (r b)) where
  irr a := decide_eq_false (lt_irr _)
  tr a b c h1 h2 := decide_eq_true (lt_of_lt_le (h a) (h b) (h c) (of_decide_eq_true h1) (lt_asym (of_decide_eq_true h2)))
  st a b c h1 := by
    by_cases h2 : ltQ (r a) (r b)
    · exact .inl (decide_eq_true h2)
    · exact .inr (decide_eq_true (lt_of_le_lt (h b) (h a) (h c) h2 (of_decide_eq_true h1)))
/-- The worst case by going on to the first worse one. -/
theorem worst_end {α : Type} {lt : α → α → Bool} (h : Ord lt) {m : α} {l : List α} {c : α} (hc : First lt (m :: l) c) (hn : (m :: l).find? (fun x => lt c x) = none) : c = best lt l m := by
  obtain ⟨h1, h2⟩ := best_first h m l
  exact first_unique h hc h1 (none_above hn) h2
theorem first_self {α : Type} {lt : α → α → Bool} (m : α) (l : List α) : First lt (m :: l) m := ⟨[], l, rfl, by simp⟩
theorem first_mem {α : Type} {lt : α → α → Bool} {L : List α} {c : α} (h : First lt L c) : c ∈ L := by
  obtain ⟨a, b, e, _⟩ := h
  rw [e]; simp
/-- The least of some answers. -/
def leastF {α : Type} (f : α → Int) : List α → Int → Int
  | [], m => m
  | x :: l, m => leastF f l (if f x < m then f x else m)
theorem leastF_snoc {α : Type} (f : α → Int) (l : List α) (x : α) : ∀ m, leastF f (l ++ [x]) m = if f x < leastF f l m then f x else leastF f l m := by
  induction l with
  | nil => intro m; rfl
  | cons y l ih => intro m; exact ih _
theorem leastF_le {α : Type} (f : α → Int) : ∀ (l : List α) (m : Int), leastF f l m ≤ m ∧ ∀ x ∈ l, leastF f l m ≤ f x
  | [], m => ⟨Int.le_refl _, by simp⟩
  | y :: l, m => by
    obtain ⟨h1, h2⟩ := leastF_le f l (if f y < m then f y else m)
    refine ⟨?_, fun x hx => ?_⟩
    · show leastF f l (if f y < m then f y else m) ≤ m
      split at h1 <;> split <;> omega
    · show leastF f l (if f y < m then f y else m) ≤ f x
      rcases List.mem_cons.1 hx with rfl | hx
      · split at h1 <;> split <;> omega
      · exact h2 x hx
theorem leastF_mem {α : Type} (f : α → Int) : ∀ (l : List α) (m : Int), leastF f l m = m ∨ ∃ x ∈ l, leastF f l m = f x
  | [], m => .inl rfl
  | y :: l, m => by
    rcases leastF_mem f l (if f y < m then f y else m) with h | ⟨x, hx, h⟩
    · by_cases hy : f y < m
      · rw [if_pos hy] at h
        exact .inr ⟨y, by simp, by show leastF f l (if f y < m then f y else m) = f y; rw [if_pos hy]; exact h⟩
      · rw [if_neg hy] at h
        exact .inl (by show leastF f l (if f y < m then f y else m) = m; rw [if_neg hy]; exact h)
    · exact .inr ⟨x, by simp [hx], h⟩
end Go.Plain

/- Plain facts: levels without ampere turns ahead of a window and behind it change no unit force. -/
namespace Go.Plain
theorem unL_mem_ext {l l' : List Int} (h1 : ∀ x ∈ l, x = 0 ∨ x ∈ l') (h2 : ∀ x ∈ l', x = 0 ∨ x ∈ l) : unL l = unL l' := by
  have key : ∀ {l l' : List Int}, (∀ x ∈ l, x = 0 ∨ x ∈ l') → unL l ≤ unL l' := by
    intro l l' h
    have h0 : 0 ≤ unL l' := by
      have g : ∀ (l : List Int) (m : Int), m ≤ l.foldl (fun m x => mx m (ab x)) m := by
        intro l
        induction l with
        | nil => intro m; exact Int.le_refl _
        | cons y l ih => intro m; have := ih (mx m (ab y)); have : m ≤ mx m (ab y) := by unfold mx; split <;> omega
                         simp only [List.foldl_cons]; omega
      exact g l' 0
    have g : ∀ (l : List Int) (m : Int), m ≤ unL l' → (∀ x ∈ l, x = 0 ∨ x ∈ l') → l.foldl (fun m x => mx m (ab x)) m ≤ unL l' := by
      intro l
      induction l with
      | nil => intro m hm _; exact hm
      | cons y l ih =>
        intro m hm hh
        refine ih _ ?_ fun x hx => hh x (List.mem_cons_of_mem _ hx)
        have hy : ab y ≤ unL l' := by
          rcases hh y List.mem_cons_self with rfl | hy
          · exact h0
          · exact unL_ge hy
        show mx m (ab y) ≤ unL l'
        unfold mx; split <;> omega
    exact g l 0 h0 h
  exact Int.le_antisymm (key h1) (key h2)
theorem psum_cons (x : Int) (l : List Int) (k : Nat) : psum (x :: l) (k + 1) = x + psum l k := by simp [psum]
theorem rs_cons (a b : List Int) (k : Nat) : rs (0 :: a) (0 :: b) (k + 1) = rs a b k := by
  unfold rs; rw [psum_cons, psum_cons]; omega
theorem axL_cons (t a b : List Int) (n : Nat) : axL (0 :: t) (0 :: a) (0 :: b) (n + 1) = 0 :: axL t a b n := by
  unfold axL
  rw [List.range_succ_eq_map, List.map_cons, List.map_map]
  have e0 : axF (0 :: t) (0 :: a) (0 :: b) 0 = 0 := by
    unfold axF
    show 0 * _ = 0
    rw [Int.zero_mul]
  rw [e0]
  refine congrArg (fun l => 0 :: l) (List.map_congr_left fun k _ => ?_)
  show axF (0 :: t) (0 :: a) (0 :: b) (k + 1) = axF t a b k
  unfold axF
  rw [rs_cons, rs_cons]; rfl
theorem sumsL_cons (l : List Int) (n : Nat) : ∀ x, (x ∈ sumsL (0 :: l) (n + 1) → x = 0 ∨ x ∈ sumsL l n) ∧ (x ∈ sumsL l n → x ∈ sumsL (0 :: l) (n + 1)) := by
  intro x
  unfold sumsL
  simp only [List.mem_map, List.mem_range]
  constructor
  · rintro ⟨k, hk, rfl⟩
    cases k with
    | zero => exact .inl rfl
    | succ k => exact .inr ⟨k, by omega, by rw [psum_cons]; omega⟩
  · rintro ⟨k, hk, rfl⟩
    exact ⟨k + 1, by omega, by rw [psum_cons]; omega⟩
theorem pad_left (a b : List Int) (k : Int) : unL (kindL (0 :: a) (0 :: b) k) = unL (kindL a b k) := by
  unfold kindL
  rw [List.length_cons, axL_cons, axL_cons, List.length_cons, List.length_cons]
  split
  · exact unL_mem_ext (fun x hx => (sumsL_cons _ _ x).1 hx) fun x hx => .inr ((sumsL_cons _ _ x).2 hx)
  split
  · exact unL_mem_ext (fun x hx => (sumsL_cons _ _ x).1 hx) fun x hx => .inr ((sumsL_cons _ _ x).2 hx)
  split
  · have e : rdIL (0 :: a) (0 :: b) (a.length + 1) = 0 :: rdIL a b a.length := by
      unfold rdIL
      rw [List.range_succ_eq_map, List.map_cons, List.map_map]
      rfl
    rw [e]
    exact unL_mem_ext (fun x hx => by simpa using hx) fun x hx => .inr (by simp [hx])
  · have e : rdOL (0 :: a) (0 :: b) (a.length + 1) = 0 :: rdOL a b a.length := by
      unfold rdOL
      rw [List.range_succ_eq_map, List.map_cons, List.map_map]
      rfl
    rw [e]
    exact unL_mem_ext (fun x hx => by simpa using hx) fun x hx => .inr (by simp [hx])
theorem getD_end (l : List Int) (k : Nat) : (l ++ [0]).getD k 0 = l.getD k 0 := by
  simp only [List.getD_eq_getElem?_getD]
  by_cases h : k < l.length
  · rw [List.getElem?_append_left h]
  · rw [List.getElem?_append_right (by omega), List.getElem?_eq_none (by omega : l.length ≤ k)]
    cases hk : k - l.length with
    | zero => rfl
    | succ j => rfl
theorem psum_end (l : List Int) (k : Nat) : psum (l ++ [0]) k = psum l k := by
  unfold psum
  by_cases h : k ≤ l.length
  · rw [List.take_append_of_le_length h]
  · rw [List.take_of_length_le (by simp; omega), List.take_of_length_le (by omega)]; simp
theorem axF_end (t a b : List Int) (k : Nat) : axF (t ++ [0]) (a ++ [0]) (b ++ [0]) k = axF t a b k := by
  unfold axF rs
  rw [getD_end, psum_end, psum_end, psum_end, psum_end]
theorem axL_end (t a b : List Int) (n : Nat) (ht : t.length = n) : axL (t ++ [0]) (a ++ [0]) (b ++ [0]) (n + 1) = axL t a b n ++ [0] := by
  rw [axL_succ]
  have e1 : axL (t ++ [0]) (a ++ [0]) (b ++ [0]) n = axL t a b n := by
    unfold axL; exact List.map_congr_left fun k _ => axF_end t a b k
  have e2 : axF (t ++ [0]) (a ++ [0]) (b ++ [0]) n = 0 := by
    rw [axF_end]
    unfold axF
    rw [show t.getD n 0 = 0 by simp [List.getD_eq_getElem?_getD, List.getElem?_eq_none (by omega : t.length ≤ n)], Int.zero_mul]
  rw [e1, e2]
theorem sumsL_end (l : List Int) : ∀ x, (x ∈ sumsL (l ++ [0]) (l.length + 1) ↔ x ∈ sumsL l l.length) := by
  intro x
  unfold sumsL
  simp only [List.mem_map, List.mem_range]
  constructor
  · rintro ⟨k, hk, rfl⟩
    rw [psum_end]
    by_cases h : k < l.length + 1
    · exact ⟨k, h, rfl⟩
    · exact ⟨l.length, by omega, by unfold psum; rw [List.take_of_length_le (by omega), List.take_of_length_le (by omega)]⟩
  · rintro ⟨k, hk, rfl⟩
    exact ⟨k, by omega, psum_end l k⟩
theorem pad_right (a b : List Int) (k : Int) (h : b.length = a.length) : unL (kindL (a ++ [0]) (b ++ [0]) k) = unL (kindL a b k) := by
  have hl : (a ++ [0]).length = a.length + 1 := by simp
  have la := axL_len a a b a.length
  have lb := axL_len b a b a.length
  unfold kindL
  rw [hl, axL_end a a b a.length rfl, axL_end b a b a.length h]
  split
  · rw [List.length_append, List.length_singleton]
    exact unL_mem_ext (fun x hx => .inr ((sumsL_end _ x).1 hx)) fun x hx => .inr ((sumsL_end _ x).2 hx)
  split
  · rw [List.length_append, List.length_singleton]
    exact unL_mem_ext (fun x hx => .inr ((sumsL_end _ x).1 hx)) fun x hx => .inr ((sumsL_end _ x).2 hx)
  split
  · have e1 : rdIL (a ++ [0]) (b ++ [0]) (a.length + 1) = rdIL a b a.length ++ [0] := by
      rw [rdIL_succ]
      have g1 : rdIL (a ++ [0]) (b ++ [0]) a.length = rdIL a b a.length := by
        unfold rdIL; exact List.map_congr_left fun j _ => by unfold rdI; rw [getD_end, getD_end]
      have g2 : rdI (a ++ [0]) (b ++ [0]) a.length = 0 := by
        unfold rdI; rw [getD_end, getD_end, show a.getD a.length 0 = 0 by simp [List.getD_eq_getElem?_getD], Int.zero_mul]
      rw [g1, g2]
    rw [e1]
    exact unL_mem_ext (fun x hx => by simp at hx; exact hx.symm) fun x hx => .inr (by simp [hx])
  · have e1 : rdOL (a ++ [0]) (b ++ [0]) (a.length + 1) = rdOL a b a.length ++ [0] := by
      rw [rdOL_succ]
      have g1 : rdOL (a ++ [0]) (b ++ [0]) a.length = rdOL a b a.length := by
        unfold rdOL; exact List.map_congr_left fun j _ => by unfold rdO; rw [getD_end, getD_end]
      have g2 : rdO (a ++ [0]) (b ++ [0]) a.length = 0 := by
        unfold rdO; rw [getD_end, getD_end, show b.getD a.length 0 = 0 by simp [List.getD_eq_getElem?_getD, List.getElem?_eq_none (by omega : b.length ≤ a.length)]]; simp
      rw [g1, g2]
    rw [e1]
    exact unL_mem_ext (fun x hx => by simp at hx; exact hx.symm) fun x hx => .inr (by simp [hx])
/-- Levels without ampere turns. -/
def zrN (n : Nat) : List Int := List.replicate n 0
theorem pad_lefts (a b : List Int) (k : Int) : ∀ n, unL (kindL (zrN n ++ a) (zrN n ++ b) k) = unL (kindL a b k)
  | 0 => rfl
  | n + 1 => by
    show unL (kindL (0 :: (zrN n ++ a)) (0 :: (zrN n ++ b)) k) = _
    rw [pad_left, pad_lefts a b k n]
theorem pad_rights (a b : List Int) (k : Int) (h : b.length = a.length) : ∀ n, unL (kindL (a ++ zrN n) (b ++ zrN n) k) = unL (kindL a b k)
  | 0 => by simp [zrN]
  | n + 1 => by
    have e : zrN (n + 1) = zrN n ++ [0] := by unfold zrN; rw [List.replicate_succ']
    rw [e, ← List.append_assoc, ← List.append_assoc, pad_right _ _ _ (by simp [h]), pad_rights a b k h n]
end Go.Plain

/- Plain facts: what has come of the cases when a round begins. -/
namespace Go.Plain
theorem flat_prefix {α : Type} {f : Nat → List α} {i n : Nat} (h : i < n) : ((List.range i).flatMap f ++ f i) <+: (List.range n).flatMap f := by
  obtain ⟨m, rfl⟩ : ∃ m, n = (i + 1) + m := ⟨n - (i + 1), by omega⟩
  rw [List.range_add, List.flatMap_append, List.range_succ, List.flatMap_append]
  simp
theorem map_prefix {α : Type} {f : Nat → α} {i n : Nat} (h : i < n) : ((List.range i).map f ++ [f i]) <+: (List.range n).map f := by
  obtain ⟨m, rfl⟩ : ∃ m, n = (i + 1) + m := ⟨n - (i + 1), by omega⟩
  rw [List.range_add, List.map_append, List.range_succ, List.map_append]
  simp
theorem pre_mono {α : Type} {a b c d : List α} (h : b ++ c <+: d) (k : a <+: c) : b ++ a <+: d := by
  obtain ⟨x, rfl⟩ := k
  exact (List.prefix_append (b ++ a) x).trans (by rw [List.append_assoc]; exact h)
/-- The cases ahead of one, and that one. -/
def casPre (k t s f : Nat) (T : Nat) (lo : Int) (S F : Nat) : List Ca := casK k T lo S F ++ (casT k t lo S F ++ (casS k t lo s F ++ casF k t (lo + s) f))
theorem casPre_next {k t s f T : Nat} {lo : Int} {S F : Nat} : casPre k t s (f + 1) T lo S F = casPre k t s f T lo S F ++ [((k : Int), (t : Int), lo + (s : Int), (f : Int))] := by
  unfold casPre; rw [casF_succ]; simp
theorem casPre_prefix {K k t s f T : Nat} {lo : Int} {S F : Nat} (hk : k < K) (ht : t < T) (hs : s < S) (hf : f < F) : casPre k t s f T lo S F ++ [((k : Int), (t : Int), lo + (s : Int), (f : Int))] <+: casK K T lo S F := by
  have h1 : casF k t (lo + s) f ++ [((k : Int), (t : Int), lo + (s : Int), (f : Int))] <+: casF k t (lo + s) F := map_prefix hf
  have h2 : casS k t lo s F ++ casF k t (lo + s) F <+: casS k t lo S F := flat_prefix (f := fun s => casF k t (lo + (s : Nat)) F) hs
  have h3 : casT k t lo S F ++ casS k t lo S F <+: casT k T lo S F := flat_prefix (f := fun t => casS k t lo S F) ht
  have h4 : casK k T lo S F ++ casT k T lo S F <+: casK K T lo S F := flat_prefix (f := fun k => casT k T lo S F) hk
  have e : casPre k t s f T lo S F ++ [((k : Int), (t : Int), lo + (s : Int), (f : Int))] = casK k T lo S F ++ (casT k t lo S F ++ (casS k t lo s F ++ (casF k t (lo + s) f ++ [((k : Int), (t : Int), lo + (s : Int), (f : Int))]))) := by
    unfold casPre; simp
  rw [e]
  exact pre_mono h4 (pre_mono h3 (pre_mono h2 h1))
theorem casPre_len {K k t s f T : Nat} {lo : Int} {S F : Nat} (hk : k < K) (ht : t < T) (hs : s < S) (hf : f < F) : (casPre k t s f T lo S F).length < (casK K T lo S F).length := by
  have := (casPre_prefix (lo := lo) hk ht hs hf).length_le
  simp at this; omega
theorem casPre_F {k t s T : Nat} {lo : Int} {S F : Nat} : casPre k t s F T lo S F = casPre k t (s + 1) 0 T lo S F := by
  unfold casPre; rw [casS_succ]; simp [casF]
theorem casPre_S {k t T : Nat} {lo : Int} {S F : Nat} : casPre k t S 0 T lo S F = casPre k (t + 1) 0 0 T lo S F := by
  unfold casPre; rw [casT_succ]; simp [casF, casS]
theorem casPre_T {k T : Nat} {lo : Int} {S F : Nat} : casPre k T 0 0 T lo S F = casPre (k + 1) 0 0 0 T lo S F := by
  unfold casPre; rw [casK_succ]; simp [casF, casS, casT]
theorem casPre_K {K T : Nat} {lo : Int} {S F : Nat} : casPre K 0 0 0 T lo S F = casK K T lo S F := by
  unfold casPre; simp [casF, casS, casT]
theorem casPre_0 {T : Nat} {lo : Int} {S F : Nat} : casPre 0 0 0 0 T lo S F = [] := by
  unfold casPre; simp [casF, casS, casT, casK]
end Go.Plain

/- Plain facts: the unit force of a shifted window, added up level by level. -/
namespace Go.Plain
/-- The ampere turns at a level, 0 beyond its ends. -/
def atL (l : List Int) (x : Int) : Int := if 0 ≤ x ∧ x ≤ (l.length : Int) - 1 then l.getD x.toNat 0 else 0
theorem zrN_len (n : Nat) : (zrN n).length = n := by simp [zrN]
theorem zrN_getD (n i : Nat) : (zrN n).getD i 0 = 0 := by
  unfold zrN
  rw [List.getD_eq_getElem?_getD, List.getElem?_replicate]
  split <;> rfl
theorem getD_app (l r : List Int) (i : Nat) : (l ++ r).getD i 0 = if i < l.length then l.getD i 0 else r.getD (i - l.length) 0 := by
  simp only [List.getD_eq_getElem?_getD]
  split
  · rw [List.getElem?_append_left (by assumption)]
  · rw [List.getElem?_append_right (by omega)]
theorem atL_pad (l : List Int) (p q i : Nat) : atL l ((i : Int) - p) = (zrN p ++ (l ++ zrN q)).getD i 0 := by
  rw [getD_app, getD_app, zrN_len]
  unfold atL
  by_cases h1 : i < p
  · rw [if_neg (by omega), if_pos h1, zrN_getD]
  · by_cases h2 : i - p < l.length
    · rw [if_pos (by omega), if_neg h1, if_pos h2, show ((i : Int) - p).toNat = i - p by omega]
    · rw [if_neg (by omega), if_neg h1, if_neg h2, zrN_getD]
def padA (a : List Int) : List Int := zrN 3 ++ (a ++ zrN 3)
def padB (b : List Int) (s : Int) : List Int := zrN (3 + s).toNat ++ (b ++ zrN (3 - s).toNat)
theorem zrN_add (m n : Nat) : zrN (m + n) = zrN m ++ zrN n := by unfold zrN; exact List.replicate_append_replicate.symm
theorem padA_len (a : List Int) : (padA a).length = a.length + 6 := by
  unfold padA
  rw [List.length_append, List.length_append, zrN_len]; omega
theorem padB_len (b : List Int) (s : Int) (hs : -3 ≤ s ∧ s ≤ 3) : (padB b s).length = b.length + 6 := by
  unfold padB
  rw [List.length_append, List.length_append, zrN_len, zrN_len]; omega
theorem padA_at (a : List Int) (i : Nat) : atL a ((i : Int) - 3) = (padA a).getD i 0 := atL_pad a 3 3 i
theorem padB_at (b : List Int) (s : Int) (hs : -3 ≤ s ∧ s ≤ 3) (i : Nat) : atL b ((i : Int) - 3 - s) = (padB b s).getD i 0 := by
  have := atL_pad b (3 + s).toNat (3 - s).toNat i
  rw [show (i : Int) - ((3 + s).toNat : Int) = (i : Int) - 3 - s by omega] at this
  exact this
theorem pads_pos (a b : List Int) (s k : Int) (h : b.length = a.length) (hs : 0 ≤ s ∧ s ≤ 3) : unL (kindL (padA a) (padB b s) k) = unL (kindL (a ++ zrN s.toNat) (zrN s.toNat ++ b) k) := by
  have e1 : padA a = zrN 3 ++ (a ++ zrN s.toNat ++ zrN (3 - s).toNat) := by
    unfold padA
    rw [List.append_assoc a, ← zrN_add, show s.toNat + (3 - s).toNat = 3 by omega]
  have e2 : padB b s = zrN 3 ++ (zrN s.toNat ++ b ++ zrN (3 - s).toNat) := by
    unfold padB
    rw [show (3 + s).toNat = 3 + s.toNat by omega, zrN_add]; simp only [List.append_assoc]
  rw [e1, e2, pad_lefts, pad_rights _ _ _ (by rw [List.length_append, List.length_append, zrN_len]; omega)]
theorem pads_neg (a b : List Int) (s k : Int) (h : b.length = a.length) (hs : -3 ≤ s ∧ s < 0) : unL (kindL (padA a) (padB b s) k) = unL (kindL (zrN (-s).toNat ++ a) (b ++ zrN (-s).toNat) k) := by
  have e1 : padA a = zrN (3 + s).toNat ++ (zrN (-s).toNat ++ a ++ zrN 3) := by
    unfold padA
    rw [← List.append_assoc, ← List.append_assoc, ← List.append_assoc, ← zrN_add, show (3 + s).toNat + (-s).toNat = 3 by omega]
  have e2 : padB b s = zrN (3 + s).toNat ++ (b ++ zrN (-s).toNat ++ zrN 3) := by
    unfold padB
    rw [show (3 - s).toNat = (-s).toNat + 3 by omega, zrN_add]; simp only [List.append_assoc]
  rw [e1, e2, pad_lefts, pad_rights _ _ _ (by rw [List.length_append, List.length_append, zrN_len]; omega)]
theorem psum_next (l : List Int) (k : Nat) : psum l (k + 1) = psum l k + l.getD k 0 := by
  by_cases h : k < l.length
  · exact psum_succ h
  · unfold psum
    rw [List.take_of_length_le (by omega), List.take_of_length_le (by omega)]
    simp [List.getD_eq_getElem?_getD, List.getElem?_eq_none (by omega : l.length ≤ k)]
theorem rs_next (a b : List Int) (k : Nat) : rs a b (k + 1) = rs a b k + a.getD k 0 + b.getD k 0 := by
  unfold rs
  rw [psum_next, psum_next]; omega
/-- A list of at most 20 small numbers. -/
def Sm (l : List Int) : Prop := (∀ x ∈ l, -100 ≤ x ∧ x ≤ 100) ∧ l.length ≤ 20
theorem Sm.at {l : List Int} (h : Sm l) (i : Nat) : -100 ≤ l.getD i 0 ∧ l.getD i 0 ≤ 100 := by
  by_cases hi : i < l.length
  · exact h.1 _ (by rw [List.getD_eq_getElem?_getD, List.getElem?_eq_getElem hi]; exact List.getElem_mem hi)
  · rw [List.getD_eq_getElem?_getD, List.getElem?_eq_none (by omega : l.length ≤ i)]
    exact ⟨by decide, by decide⟩
theorem Sm.rs {a b : List Int} (ha : Sm a) (hb : Sm b) (i : Nat) : -4000 ≤ rs a b i ∧ rs a b i ≤ 4000 := by
  have h1 := psum_bound (B := 100) (by omega) ha.1 i
  have h2 := psum_bound (B := 100) (by omega) hb.1 i
  have := ha.2
  have := hb.2
  unfold Go.Plain.rs; omega
theorem Sm.ax {t a b : List Int} (ht : Sm t) (ha : Sm a) (hb : Sm b) (i : Nat) : -800000 ≤ axF t a b i ∧ axF t a b i ≤ 800000 := by
  have h1 := ha.rs hb i
  have h2 := ha.rs hb (i + 1)
  exact mul_bound (A := 100) (B := 8000) (ht.at i) (by omega) (by omega)
theorem Sm.thrust {t a b : List Int} (ht : Sm t) (ha : Sm a) (hb : Sm b) (n : Nat) (hn : n ≤ 20) (i : Nat) : -16000000 ≤ psum (axL t a b n) i ∧ psum (axL t a b n) i ≤ 16000000 := by
  have h1 := psum_bound (B := 800000) (by omega) (l := axL t a b n) (fun x hx => by obtain ⟨k, _, rfl⟩ := List.mem_map.1 hx; exact ht.ax ha hb k) i
  have := axL_len t a b n
  omega
theorem axF_next {t a b : List Int} (i : Nat) : axF t a b i = t.getD i 0 * (2 * rs a b i + a.getD i 0 + b.getD i 0) := by
  unfold axF
  rw [rs_next, show rs a b i + (rs a b i + a.getD i 0 + b.getD i 0) = 2 * rs a b i + a.getD i 0 + b.getD i 0 by omega]
theorem thr_next {t a b : List Int} {n i : Nat} (h : i < n) : psum (axL t a b n) (i + 1) = psum (axL t a b n) i + t.getD i 0 * (2 * rs a b i + a.getD i 0 + b.getD i 0) := by
  rw [psum_next, axL_getD h, axF_next]
theorem uT_next {l : List Int} (i : Nat) : unL (sumsL l (i + 1)) = mx (unL (sumsL l i)) (ab (psum l (i + 1))) := by
  rw [sumsL_succ, unL_snoc]
theorem uI_next {a b : List Int} (i : Nat) : unL (rdIL a b (i + 1)) = mx (unL (rdIL a b i)) (ab (a.getD i 0 * (a.getD i 0 - b.getD i 0))) := by
  rw [rdIL_succ, unL_snoc]; rfl
theorem uO_next {a b : List Int} (i : Nat) : unL (rdOL a b (i + 1)) = mx (unL (rdOL a b i)) (ab (b.getD i 0 * (a.getD i 0 - b.getD i 0))) := by
  rw [rdOL_succ, unL_snoc]
  unfold rdO ab
  rw [Int.neg_mul, Int.natAbs_neg]
theorem Sm.rd {a b : List Int} (ha : Sm a) (hb : Sm b) (i : Nat) : (-20000 ≤ a.getD i 0 * (a.getD i 0 - b.getD i 0) ∧ a.getD i 0 * (a.getD i 0 - b.getD i 0) ≤ 20000) ∧ (-20000 ≤ b.getD i 0 * (a.getD i 0 - b.getD i 0) ∧ b.getD i 0 * (a.getD i 0 - b.getD i 0) ≤ 20000) := by
  have h1 := ha.at i
  have h2 := hb.at i
  exact ⟨mul_bound (A := 100) (B := 200) h1 (by omega) (by omega), mul_bound (A := 100) (B := 200) h2 (by omega) (by omega)⟩
theorem sm_pads {a b : List Int} {s : Int} (hs : -3 ≤ s ∧ s ≤ 3) (ha : ∀ x ∈ a, -100 ≤ x ∧ x ≤ 100) (hb : ∀ x ∈ b, -100 ≤ x ∧ x ≤ 100) (la : a.length ≤ 14) (lb : b.length ≤ 14) : Sm (padA a) ∧ Sm (padB b s) := by
  have z : ∀ {n : Nat} {x : Int}, x ∈ zrN n → x = 0 := fun h => (List.mem_replicate.1 h).2
  refine ⟨⟨fun x hx => ?_, by rw [padA_len]; omega⟩, ⟨fun x hx => ?_, by rw [padB_len _ _ hs]; omega⟩⟩
  · unfold padA at hx
    rcases List.mem_append.1 hx with h | h
    · rw [z h]; decide
    · rcases List.mem_append.1 h with h | h
      · exact ha x h
      · rw [z h]; decide
  · unfold padB at hx
    rcases List.mem_append.1 hx with h | h
    · rw [z h]; decide
    · rcases List.mem_append.1 h with h | h
      · exact hb x h
      · rw [z h]; decide
theorem ab_nonneg (x : Int) : ab x = if x < 0 then -x else x := by unfold ab; split <;> omega
end Go.Plain
