/- Plain facts: intervals of fractions, cut by constraints; one by one or all at once. -/
import Derived.Test.YtflcnhmckeiacaaGreatDoorM
namespace Go.Plain
abbrev Qn : Type := Int × Int
def ltQ (x y : Qn) : Prop := x.1 * y.2 < y.1 * x.2
instance (x y : Qn) : Decidable (ltQ x y) := by unfold ltQ; infer_instance
def mxQ (x y : Qn) : Qn := if ltQ x y then y else x
def mnQ (x y : Qn) : Qn := if ltQ y x then y else x
abbrev Iv : Type := Qn × Qn
def andS (s o : Iv) : Iv := (mxQ s.1 o.1, mnQ s.2 o.2)
def empS (s : Iv) : Prop := ltQ s.2 s.1
instance (s : Iv) : Decidable (empS s) := by unfold empS; infer_instance
def lowQ (n d : Int) : Qn := (lowNum n d, lowDen n d)
def nevS : Iv := ((1, 1), (0, 1))
/-- The factors f of an interval with f n at most m. -/
def amS (s : Iv) (n m : Int) : Iv := if n > 0 then (s.1, mnQ s.2 (lowQ m n)) else if n < 0 then (mxQ s.1 (lowQ (-m) (-n)), s.2) else if m < 0 then nevS else s
def atS (F : Iv) (e x y : Int) : Iv := amS (amS F (x - e) (y + e)) (-x - e) (e - y)
def limS (s : Iv) (n m : Int) : Option Iv := if n = 0 ∧ m < 0 then none else if empS (amS s n m) then none else some (amS s n m)
def stepR (s : Iv) (e x y : Int) : Option Iv := (limS s (x - e) (y + e)).bind fun s => limS s (-x - e) (e - y)
abbrev posQ (x : Qn) : Prop := 0 < x.2
abbrev posS (s : Iv) : Prop := posQ s.1 ∧ posQ s.2

theorem lt_of_le_lt {x y z : Qn} (hx : posQ x) (hy : posQ y) (hz : posQ z) (h1 : ¬ ltQ y x) (h2 : ltQ y z) : ltQ x z := by
  unfold ltQ at *
  obtain ⟨a, b⟩ := x
  obtain ⟨c, d⟩ := y
  obtain ⟨p, q⟩ := z
  simp only at *
  refine Int.lt_of_mul_lt_mul_right (a := d) ?_ (by omega)
  have e1 : a * d * q ≤ c * b * q := Int.mul_le_mul_of_nonneg_right (by omega) (by omega)
  have e2 : c * q * b < p * d * b := Int.mul_lt_mul_of_pos_right h2 hx
  rw [Int.mul_right_comm a q d, Int.mul_right_comm p b d]
  rw [Int.mul_right_comm c b q] at e1
  omega
theorem lt_of_lt_le {x y z : Qn} (hx : posQ x) (hy : posQ y) (hz : posQ z) (h1 : ltQ x y) (h2 : ¬ ltQ z y) : ltQ x z := by
  unfold ltQ at *
  obtain ⟨a, b⟩ := x
  obtain ⟨c, d⟩ := y
  obtain ⟨p, q⟩ := z
  simp only at *
  refine Int.lt_of_mul_lt_mul_right (a := d) ?_ (by omega)
  have e1 : a * d * q < c * b * q := Int.mul_lt_mul_of_pos_right h1 hz
  have e2 : c * q * b ≤ p * d * b := Int.mul_le_mul_of_nonneg_right (by omega) (by omega)
  rw [Int.mul_right_comm a q d, Int.mul_right_comm p b d]
  rw [Int.mul_right_comm c b q] at e1
  omega
theorem lt_irr (x : Qn) : ¬ ltQ x x := by unfold ltQ; omega
theorem lt_asym {x y : Qn} (h : ltQ x y) : ¬ ltQ y x := by unfold ltQ at *; omega
theorem le_trans' {x y z : Qn} (hx : posQ x) (hy : posQ y) (hz : posQ z) (h1 : ¬ ltQ y x) (h2 : ¬ ltQ z y) : ¬ ltQ z x := fun h => h2 (lt_of_lt_le hz hx hy h h1)
theorem mx_pos {x y : Qn} (hx : posQ x) (hy : posQ y) : posQ (mxQ x y) := by unfold mxQ; split <;> assumption
theorem mn_pos {x y : Qn} (hx : posQ x) (hy : posQ y) : posQ (mnQ x y) := by unfold mnQ; split <;> assumption
theorem mx_l {x y : Qn} : ¬ ltQ (mxQ x y) x := by
  unfold mxQ; split
  · rename_i h; exact lt_asym h
  · exact lt_irr x
theorem mx_r {x y : Qn} : ¬ ltQ (mxQ x y) y := by
  unfold mxQ; split
  · exact lt_irr y
  · assumption
theorem mn_l {x y : Qn} : ¬ ltQ x (mnQ x y) := by
  unfold mnQ; split
  · rename_i h; exact lt_asym h
  · exact lt_irr x
theorem mn_r {x y : Qn} : ¬ ltQ y (mnQ x y) := by
  unfold mnQ; split
  · exact lt_irr y
  · assumption
theorem mx_assoc {x y z : Qn} (hx : posQ x) (hy : posQ y) (hz : posQ z) : mxQ (mxQ x y) z = mxQ x (mxQ y z) := by
  by_cases h1 : ltQ x y
  · rw [show mxQ x y = y from if_pos h1]
    by_cases h2 : ltQ y z
    · rw [show mxQ y z = z from if_pos h2, show mxQ x z = z from if_pos (lt_of_le_lt hx hy hz (lt_asym h1) h2)]
    · rw [show mxQ y z = y from if_neg h2, show mxQ x y = y from if_pos h1]
  · rw [show mxQ x y = x from if_neg h1]
    by_cases h2 : ltQ y z
    · rw [show mxQ y z = z from if_pos h2]
    · rw [show mxQ y z = y from if_neg h2, show mxQ x y = x from if_neg h1]
      exact if_neg (fun h => h2 (lt_of_le_lt hy hx hz h1 h))
theorem mn_assoc {x y z : Qn} (hx : posQ x) (hy : posQ y) (hz : posQ z) : mnQ (mnQ x y) z = mnQ x (mnQ y z) := by
  by_cases h1 : ltQ y x
  · rw [show mnQ x y = y from if_pos h1]
    by_cases h2 : ltQ z y
    · rw [show mnQ y z = z from if_pos h2, show mnQ x z = z from if_pos (lt_of_lt_le hz hy hx h2 (lt_asym h1))]
    · rw [show mnQ y z = y from if_neg h2, show mnQ x y = y from if_pos h1]
  · rw [show mnQ x y = x from if_neg h1]
    by_cases h2 : ltQ z y
    · rw [show mnQ y z = z from if_pos h2]
    · rw [show mnQ y z = y from if_neg h2, show mnQ x y = x from if_neg h1]
      exact if_neg (fun h => h2 (lt_of_lt_le hz hx hy h h1))
theorem lowQ_pos {n d : Int} (h : 0 < d) : posQ (lowQ n d) := lowDen_pos h
theorem nev_pos : posS nevS := ⟨by decide, by decide⟩
theorem am_pos {s : Iv} {n m : Int} (h : posS s) : posS (amS s n m) := by
  unfold amS
  split
  · exact ⟨h.1, mn_pos h.2 (lowQ_pos (by omega))⟩
  · split
    · exact ⟨mx_pos h.1 (lowQ_pos (by omega)), h.2⟩
    · split
      · exact nev_pos
      · exact h
theorem and_pos {s o : Iv} (h : posS s) (k : posS o) : posS (andS s o) := ⟨mx_pos h.1 k.1, mn_pos h.2 k.2⟩
theorem at_pos {F : Iv} {e x y : Int} (h : posS F) : posS (atS F e x y) := am_pos (am_pos h)
/-- o lies within s. -/
def within (o s : Iv) : Prop := ¬ ltQ o.1 s.1 ∧ ¬ ltQ s.2 o.2
theorem within_emp {o s : Iv} (ho : posS o) (hs : posS s) (h : within o s) (he : empS s) : empS o := by
  unfold empS at *
  exact lt_of_lt_le ho.2 hs.1 ho.1 (lt_of_le_lt ho.2 hs.2 hs.1 h.2 he) h.1
theorem within_refl (s : Iv) : within s s := ⟨lt_irr _, lt_irr _⟩
theorem within_trans {a b c : Iv} (ha : posS a) (hb : posS b) (hc : posS c) (h : within a b) (k : within b c) : within a c :=
  ⟨le_trans' hc.1 hb.1 ha.1 k.1 h.1, le_trans' ha.2 hb.2 hc.2 h.2 k.2⟩
theorem and_within_l (s o : Iv) : within (andS s o) s := ⟨mx_l, mn_l⟩
theorem and_within_r (s o : Iv) : within (andS s o) o := ⟨mx_r, mn_r⟩
theorem am_within {s : Iv} {n m : Int} (h : ¬ (n = 0 ∧ m < 0)) : within (amS s n m) s := by
  unfold amS
  split
  · exact ⟨lt_irr _, mn_l⟩
  · split
    · exact ⟨mx_l, lt_irr _⟩
    · rw [if_neg (by omega)]; exact within_refl s
theorem am_emp {s : Iv} {n m : Int} (hp : posS s) (h : empS s) : empS (amS s n m) := by
  by_cases k : n = 0 ∧ m < 0
  · unfold amS; rw [if_neg (by omega), if_neg (by omega), if_pos k.2]; decide
  · exact within_emp (am_pos hp) hp (am_within k) h
theorem and_self_of {s F : Iv} (h : within s F) : andS s F = s := by
  unfold andS mxQ mnQ
  rw [if_neg h.1, if_neg h.2]
theorem am_and {s F : Iv} {n m : Int} (hs : posS s) (hF : posS F) (h : ¬ (n = 0 ∧ m < 0)) : amS (andS s F) n m = andS s (amS F n m) := by
  unfold amS
  by_cases h1 : n > 0
  · rw [if_pos h1, if_pos h1]
    unfold andS
    rw [mn_assoc hs.2 hF.2 (lowQ_pos (by omega))]
  · rw [if_neg h1, if_neg h1]
    by_cases h2 : n < 0
    · rw [if_pos h2, if_pos h2]
      unfold andS
      rw [mx_assoc hs.1 hF.1 (lowQ_pos (by omega))]
    · rw [if_neg h2, if_neg h2, if_neg (by omega), if_neg (by omega)]
theorem step_eq {s F : Iv} {e x y : Int} (hs : posS s) (hF : posS F) (hw : within s F) (_hne : ¬ empS s) :
    (∃ o, stepR s e x y = some o ∧ andS s (atS F e x y) = o ∧ ¬ empS o ∧ within o s) ∨ (stepR s e x y = none ∧ empS (andS s (atS F e x y))) := by
  unfold stepR atS
  by_cases k1 : x - e = 0 ∧ y + e < 0
  · right
    have hn : empS (amS F (x - e) (y + e)) := by unfold amS; rw [if_neg (by omega), if_neg (by omega), if_pos k1.2]; decide
    have hp := am_pos (n := x - e) (m := y + e) hF
    refine ⟨by unfold limS; rw [if_pos k1]; (first | done | rfl), within_emp (and_pos hs (am_pos hp)) (am_pos hp) (and_within_r _ _) (am_emp hp hn)⟩
  · have e1 : andS s (amS F (x - e) (y + e)) = amS s (x - e) (y + e) := by rw [← am_and hs hF k1, and_self_of hw]
    have hp1 := am_pos (n := x - e) (m := y + e) hs
    have hpF := am_pos (n := x - e) (m := y + e) hF
    have w1 : within (amS s (x - e) (y + e)) s := am_within k1
    by_cases k2 : -x - e = 0 ∧ e - y < 0
    · right
      have hn : empS (amS (amS F (x - e) (y + e)) (-x - e) (e - y)) := by
        generalize amS F (x - e) (y + e) = G
        unfold amS; rw [if_neg (by omega), if_neg (by omega), if_pos k2.2]; decide
      refine ⟨?_, within_emp (and_pos hs (am_pos hpF)) (am_pos hpF) (and_within_r _ _) hn⟩
      unfold limS
      rw [if_neg k1]
      split
      · rfl
      · simp only [Option.bind_some]
    · have e2 : andS s (amS (amS F (x - e) (y + e)) (-x - e) (e - y)) = amS (amS s (x - e) (y + e)) (-x - e) (e - y) := by rw [← am_and hs hpF k2, e1]
      rw [e2]
      have hp2 := am_pos (n := -x - e) (m := e - y) hp1
      have w2 : within (amS (amS s (x - e) (y + e)) (-x - e) (e - y)) (amS s (x - e) (y + e)) := am_within k2
      unfold limS
      rw [if_neg k1]
      by_cases h1 : empS (amS s (x - e) (y + e))
      · right
        rw [if_pos h1]
        exact ⟨rfl, am_emp hp1 h1⟩
      · rw [if_neg h1]
        simp only [Option.bind_some]
        rw [if_neg k2]
        by_cases h2 : empS (amS (amS s (x - e) (y + e)) (-x - e) (e - y))
        · right; rw [if_pos h2]; exact ⟨rfl, h2⟩
        · left
          rw [if_neg h2]
          exact ⟨_, rfl, rfl, h2, within_trans hp2 hp1 hs w2 w1⟩
/-- All at once. -/
def allS (F : Iv) (e : Int) : List (Int × Int) → Iv → Iv
  | [], s => s
  | p :: l, s => allS F e l (andS s (atS F e p.1 p.2))
/-- One by one. -/
def oneS (e : Int) : List (Int × Int) → Option Iv → Option Iv
  | [], s => s
  | p :: l, s => oneS e l (s.bind fun s => stepR s e p.1 p.2)
theorem one_none (e : Int) : ∀ l, oneS e l none = none
  | [] => rfl
  | _ :: l => one_none e l
theorem all_within {F : Iv} {e : Int} (hF : posS F) : ∀ (l : List (Int × Int)) {s : Iv}, posS s → within (allS F e l s) s ∧ posS (allS F e l s)
  | [], _, hs => ⟨within_refl _, hs⟩
  | p :: l, s, hs => by
    have hp := and_pos hs (at_pos (e := e) (x := p.1) (y := p.2) hF)
    obtain ⟨h1, h2⟩ := all_within hF l hp
    exact ⟨within_trans h2 hp hs h1 (and_within_l _ _), h2⟩
theorem all_one {F : Iv} {e : Int} (hF : posS F) : ∀ (l : List (Int × Int)) {s : Iv}, posS s → within s F → ¬ empS s → (∃ o, oneS e l (some s) = some o ∧ allS F e l s = o ∧ ¬ empS o) ∨ (oneS e l (some s) = none ∧ empS (allS F e l s))
  | [], s, _, _, hne => .inl ⟨s, rfl, rfl, hne⟩
  | p :: l, s, hs, hw, hne => by
    have hp := and_pos hs (at_pos (e := e) (x := p.1) (y := p.2) hF)
    rcases step_eq (e := e) (x := p.1) (y := p.2) hs hF hw hne with ⟨o, h1, h2, h3, h4⟩ | ⟨h1, h2⟩
    · rw [h2] at hp
      have := all_one (e := e) hF l hp (within_trans hp hs hF h4 hw) h3
      simp only [oneS, allS, Option.bind_some, h1, h2]
      exact this
    · right
      simp only [oneS, allS, Option.bind_some, h1]
      obtain ⟨w, hp2⟩ := all_within (e := e) hF l hp
      exact ⟨one_none e l, within_emp hp2 hp w h2⟩
end Go.Plain

/- Plain facts: the first greatest of a list, found by one pass, or by going on to the first greater one. -/
namespace Go.Plain
variable {α : Type}
/-- An order by a size. -/
structure Ord (lt : α → α → Bool) : Prop where
  irr : ∀ a, lt a a = false
  tr : ∀ a b c, lt a b = true → lt b c = true → lt a c = true
  st : ∀ a b c, lt a c = true → lt a b = true ∨ lt b c = true
theorem Ord.asym {lt : α → α → Bool} (h : Ord lt) {a b : α} (hab : lt a b = true) : lt b a = false := by
  cases hb : lt b a with
  | false => rfl
  | true => have := h.tr a b a hab hb; rw [h.irr] at this; cases this
/-- One pass: a later one counts only if it is greater. -/
def best (lt : α → α → Bool) : List α → α → α
  | [], m => m
  | x :: l, m => best lt l (if lt m x = true then x else m)
theorem best_snoc {lt : α → α → Bool} (l : List α) (x : α) : ∀ m, best lt (l ++ [x]) m = if lt (best lt l m) x = true then x else best lt l m := by
  induction l with
  | nil => intro m; rfl
  | cons y l ih => intro m; exact ih _
/-- c is the first one of its size, all before are less. -/
def First (lt : α → α → Bool) (L : List α) (c : α) : Prop := ∃ a b, L = a ++ c :: b ∧ ∀ x ∈ a, lt x c = true
theorem best_first {lt : α → α → Bool} (h : Ord lt) (m : α) : ∀ l : List α, First lt (m :: l) (best lt l m) ∧ ∀ x ∈ m :: l, lt (best lt l m) x = false := by
  intro l
  generalize hn : l.length = n
  induction n generalizing l with
  | zero =>
    obtain rfl : l = [] := List.eq_nil_of_length_eq_zero hn
    refine ⟨⟨[], [], rfl, by simp⟩, fun x hx => ?_⟩
    rw [List.mem_singleton] at hx
    subst hx; exact h.irr _
  | succ n ih =>
    rcases List.eq_nil_or_concat l with rfl | ⟨k, y, hk⟩
    · simp at hn
    · rw [List.concat_eq_append] at hk
      subst hk
      obtain ⟨⟨a, b, e, h1⟩, h2⟩ := ih k (by simp at hn; exact hn)
      rw [best_snoc]
      by_cases hy : lt (best lt k m) y = true
      · rw [if_pos hy]
        refine ⟨⟨m :: k, [], rfl, fun x hx => ?_⟩, fun x hx => ?_⟩
        · rcases h.st _ x _ hy with h3 | h3
          · rw [h2 x hx] at h3; cases h3
          · exact h3
        · rw [← List.cons_append] at hx
          rcases List.mem_append.1 hx with hx | hx
          · cases h3 : lt y x with
            | false => rfl
            | true => have := h.tr _ _ _ hy h3; rw [h2 x hx] at this; cases this
          · rw [List.mem_singleton] at hx; subst hx; exact h.irr _
      · rw [if_neg hy]
        refine ⟨⟨a, b ++ [y], by rw [← List.cons_append, e]; simp, h1⟩, fun x hx => ?_⟩
        rw [← List.cons_append] at hx
        rcases List.mem_append.1 hx with hx | hx
        · exact h2 x hx
        · rw [List.mem_singleton] at hx; subst hx
          cases h3 : lt (best lt k m) x with
          | false => rfl
          | true => exact absurd h3 hy
/-- The first greater one is the first of its size, if this one was. -/
theorem first_next {lt : α → α → Bool} (h : Ord lt) {L : List α} {c d : α} (hf : L.find? (fun x => lt c x) = some d) : First lt L d ∧ lt c d = true := by
  obtain ⟨h1, a, b, e, h2⟩ := List.find?_eq_some_iff_append.1 hf
  refine ⟨⟨a, b, e, fun x hx => ?_⟩, h1⟩
  have h3 := h2 x hx
  rcases h.st c x d h1 with h4 | h4
  · rw [h4] at h3; cases h3
  · exact h4
theorem first_unique {lt : α → α → Bool} (h : Ord lt) {L : List α} {c d : α} (hc : First lt L c) (hd : First lt L d) (mc : ∀ x ∈ L, lt c x = false) (md : ∀ x ∈ L, lt d x = false) : c = d := by
  obtain ⟨a, b, e1, h1⟩ := hc
  obtain ⟨a', b', e2, h2⟩ := hd
  have e : a ++ c :: b = a' ++ d :: b' := e1.symm.trans e2
  rcases List.append_eq_append_iff.1 e with ⟨k, e3, e4⟩ | ⟨k, e3, e4⟩
  · cases k with
    | nil => simp at e4; exact e4.1
    | cons y k =>
      have hy : c = y := by simpa using (List.cons.inj e4).1
      subst hy
      have := h2 c (by rw [e3]; simp)
      rw [mc d (by rw [e2]; simp)] at this; cases this
  · cases k with
    | nil => simp at e4; exact e4.1.symm
    | cons y k =>
      have hy : d = y := by simpa using (List.cons.inj e4).1
      subst hy
      have := h1 d (by rw [e3]; simp)
      rw [md c (by rw [e1]; simp)] at this; cases this
/-- How many are greater. -/
def above (lt : α → α → Bool) (L : List α) (c : α) : Nat := (L.filter (lt c)).length
theorem above_less {lt : α → α → Bool} (h : Ord lt) {c d : α} (hcd : lt c d = true) : ∀ {L : List α}, d ∈ L → above lt L d < above lt L c := by
  have le : ∀ L : List α, above lt L d ≤ above lt L c := by
    intro L
    induction L with
    | nil => exact Nat.le_refl _
    | cons x L ih =>
      unfold above at *
      by_cases h1 : lt d x = true
      · have h2 := h.tr _ _ _ hcd h1
        rw [List.filter_cons_of_pos h1, List.filter_cons_of_pos h2]; rw [List.length_cons, List.length_cons]; omega
      · rw [List.filter_cons_of_neg h1]
        by_cases h2 : lt c x = true
        · rw [List.filter_cons_of_pos h2]; rw [List.length_cons]; omega
        · rw [List.filter_cons_of_neg h2]; exact ih
  intro L
  induction L with
  | nil => intro hd; cases hd
  | cons x L ih =>
    intro hd
    rcases List.mem_cons.1 hd with rfl | hd
    · have := le L
      unfold above at *
      rw [List.filter_cons_of_neg (by rw [h.irr]; decide), List.filter_cons_of_pos hcd]; rw [List.length_cons]; omega
    · have ih := ih hd
      unfold above at *
      by_cases h1 : lt d x = true
      · have h2 := h.tr _ _ _ hcd h1
        rw [List.filter_cons_of_pos h1, List.filter_cons_of_pos h2]; rw [List.length_cons, List.length_cons]; omega
      · rw [List.filter_cons_of_neg h1]
        by_cases h2 : lt c x = true
        · rw [List.filter_cons_of_pos h2]; rw [List.length_cons]; omega
        · rw [List.filter_cons_of_neg h2]; exact ih
theorem none_above {lt : α → α → Bool} {L : List α} {c : α} (hf : L.find? (fun x => lt c x) = none) : ∀ x ∈ L, lt c x = false := by
  intro x hx
  have := List.find?_eq_none.1 hf x hx
  cases h : lt c x with
  | false => rfl
  | true => exact absurd h this
end Go.Plain

/- Plain facts: the cases of a design in their order, and loops over them. -/
namespace Go.Plain
/-- Kind, tap, shift, fault. -/
abbrev Ca : Type := Int × Int × Int × Int
def casF (k t : Nat) (s : Int) (F : Nat) : List Ca := (List.range F).map fun (f : Nat) => ((k : Int), (t : Int), s, (f : Int))
def casS (k t : Nat) (lo : Int) (S F : Nat) : List Ca := (List.range S).flatMap fun (s : Nat) => casF k t (lo + s) F
def casT (k T : Nat) (lo : Int) (S F : Nat) : List Ca := (List.range T).flatMap fun t => casS k t lo S F
def casK (K T : Nat) (lo : Int) (S F : Nat) : List Ca := (List.range K).flatMap fun k => casT k T lo S F
/-- All cases. -/
def casL (T : Nat) (lo hi : Int) (F : Nat) : List Ca := casK 4 T lo (hi - lo + 1).toNat F
theorem casF_succ (k t : Nat) (s : Int) (F : Nat) : casF k t s (F + 1) = casF k t s F ++ [((k : Int), (t : Int), s, (F : Int))] := by
  unfold casF; simp [List.range_succ]
theorem casS_succ (k t : Nat) (lo : Int) (S F : Nat) : casS k t lo (S + 1) F = casS k t lo S F ++ casF k t (lo + S) F := by
  unfold casS; simp [List.range_succ]
theorem casT_succ (k T : Nat) (lo : Int) (S F : Nat) : casT k (T + 1) lo S F = casT k T lo S F ++ casS k T lo S F := by
  unfold casT; simp [List.range_succ]
theorem casK_succ (K T : Nat) (lo : Int) (S F : Nat) : casK (K + 1) T lo S F = casK K T lo S F ++ casT K T lo S F := by
  unfold casK; simp [List.range_succ]
/-- What a case of a list is. -/
def CaOK (T : Nat) (lo hi : Int) (F : Nat) (c : Ca) : Prop := (0 ≤ c.1 ∧ c.1 ≤ 3) ∧ (0 ≤ c.2.1 ∧ c.2.1 < T) ∧ (lo ≤ c.2.2.1 ∧ c.2.2.1 ≤ hi) ∧ 0 ≤ c.2.2.2 ∧ c.2.2.2 < F
theorem casL_mem {T : Nat} {lo hi : Int} {F : Nat} {c : Ca} : c ∈ casL T lo hi F ↔ CaOK T lo hi F c := by
  unfold casL casK casT casS casF CaOK
  obtain ⟨a, b, s, f⟩ := c
  simp only [List.mem_flatMap, List.mem_range, List.mem_map, Prod.mk.injEq]
  constructor
  · rintro ⟨k, hk, t, ht, j, hj, g, hg, rfl, rfl, rfl, rfl⟩
    omega
  · rintro ⟨h1, h2, h3, h4⟩
    exact ⟨a.toNat, by omega, b.toNat, by omega, (s - lo).toNat, by omega, f.toNat, by omega, by omega, by omega, by omega, by omega⟩
theorem casL_head {T : Nat} {lo hi : Int} {F : Nat} (hT : 0 < T) (hs : lo ≤ hi) (hF : 0 < F) : ∃ l, casL T lo hi F = (0, 0, lo, 0) :: l := by
  obtain ⟨S, hS⟩ : ∃ S, (hi - lo + 1).toNat = S + 1 := ⟨(hi - lo + 1).toNat - 1, by omega⟩
  obtain ⟨T', rfl⟩ : ∃ x, T = x + 1 := ⟨T - 1, by omega⟩
  obtain ⟨F', rfl⟩ : ∃ x, F = x + 1 := ⟨F - 1, by omega⟩
  unfold casL
  rw [hS]
  unfold casK casT casS casF
  simp [List.range_succ_eq_map]
end Go.Plain

/- Plain facts: an order by fractions. -/
namespace Go.Plain
theorem ord_of {α : Type} {r : α → Qn} (h : ∀ a, posQ (r a)) : Ord fun a b => decide (ltQ (r a) (r b)) where
  irr a := decide_eq_false (lt_irr _)
  tr a b c h1 h2 := decide_eq_true (lt_of_lt_le (h a) (h b) (h c) (of_decide_eq_true h1) (lt_asym (of_decide_eq_true h2)))
  st a b c h1 := by
    by_cases h2 : ltQ (r a) (r b)
    · exact .inl (decide_eq_true h2)
    · exact .inr (decide_eq_true (lt_of_le_lt (h b) (h a) (h c) h2 (of_decide_eq_true h1)))
/-- The worst case by going on to the first worse one. -/
theorem worst_end {α : Type} {lt : α → α → Bool} (h : Ord lt) {m : α} {l : List α} {c : α} (hc : First lt (m :: l) c) (hn : (m :: l).find? (fun x => lt c x) = none) : c = best lt l m := by
  obtain ⟨h1, h2⟩ := best_first h m l
  exact first_unique h hc h1 (none_above hn) h2
theorem first_self {α : Type} {lt : α → α → Bool} (m : α) (l : List α) : First lt (m :: l) m := ⟨[], l, rfl, by simp⟩
theorem first_mem {α : Type} {lt : α → α → Bool} {L : List α} {c : α} (h : First lt L c) : c ∈ L := by
  obtain ⟨a, b, e, _⟩ := h
  rw [e]; simp
/-- The least of some answers. -/
def leastF {α : Type} (f : α → Int) : List α → Int → Int
  | [], m => m
  | x :: l, m => leastF f l (if f x < m then f x else m)
theorem leastF_snoc {α : Type} (f : α → Int) (l : List α) (x : α) : ∀ m, leastF f (l ++ [x]) m = if f x < leastF f l m then f x else leastF f l m := by
  induction l with
  | nil => intro m; rfl
  | cons y l ih => intro m; exact ih _
theorem leastF_le {α : Type} (f : α → Int) : ∀ (l : List α) (m : Int), leastF f l m ≤ m ∧ ∀ x ∈ l, leastF f l m ≤ f x
  | [], m => ⟨Int.le_refl _, by simp⟩
  | y :: l, m => by
    obtain ⟨h1, h2⟩ := leastF_le f l (if f y < m then f y else m)
    refine ⟨?_, fun x hx => ?_⟩
    · show leastF f l (if f y < m then f y else m) ≤ m
      split at h1 <;> split <;> omega
    · show leastF f l (if f y < m then f y else m) ≤ f x
      rcases List.mem_cons.1 hx with rfl | hx
      · split at h1 <;> split <;> omega
      · exact h2 x hx
theorem leastF_mem {α : Type} (f : α → Int) : ∀ (l : List α) (m : Int), leastF f l m = m ∨ ∃ x ∈ l, leastF f l m = f x
  | [], m => .inl rfl
  | y :: l, m => by
    rcases leastF_mem f l (if f y < m then f y else m) with h | ⟨x, hx, h⟩
    · by_cases hy : f y < m
      · rw [if_pos hy] at h
        exact .inr ⟨y, by simp, by show leastF f l (if f y < m then f y else m) = f y; rw [if_pos hy]; exact h⟩
      · rw [if_neg hy] at h
        exact .inl (by show leastF f l (if f y < m then f y else m) = m; rw [if_neg hy]; exact h)
    · exact .inr ⟨x, by simp [hx], h⟩
end Go.Plain

/- Plain facts: what has come of the cases when a round begins. -/
namespace Go.Plain
theorem flat_prefix {α : Type} {f : Nat → List α} {i n : Nat} (h : i < n) : ((List.range i).flatMap f ++ f i) <+: (List.range n).flatMap f := by
  obtain ⟨m, rfl⟩ : ∃ m, n = (i + 1) + m := ⟨n - (i + 1), by omega⟩
  rw [List.range_add, List.flatMap_append, List.range_succ, List.flatMap_append]
  simp
theorem map_prefix {α : Type} {f : Nat → α} {i n : Nat} (h : i < n) : ((List.range i).map f ++ [f i]) <+: (List.range n).map f := by
  obtain ⟨m, rfl⟩ : ∃ m, n = (i + 1) + m := ⟨n - (i + 1), by omega⟩
  rw [List.range_add, List.map_append, List.range_succ, List.map_append]
  simp
theorem pre_mono {α : Type} {a b c d : List α} (h : b ++ c <+: d) (k : a <+: c) : b ++ a <+: d := by
  obtain ⟨x, rfl⟩ := k
  exact (List.prefix_append (b ++ a) x).trans (by rw [List.append_assoc]; exact h)
/-- The cases ahead of one, and that one. -/
def casPre (k t s f : Nat) (T : Nat) (lo : Int) (S F : Nat) : List Ca := casK k T lo S F ++ (casT k t lo S F ++ (casS k t lo s F ++ casF k t (lo + s) f))
theorem casPre_next {k t s f T : Nat} {lo : Int} {S F : Nat} : casPre k t s (f + 1) T lo S F = casPre k t s f T lo S F ++ [((k : Int), (t : Int), lo + (s : Int), (f : Int))] := by
  unfold casPre; rw [casF_succ]; simp
theorem casPre_prefix {K k t s f T : Nat} {lo : Int} {S F : Nat} (hk : k < K) (ht : t < T) (hs : s < S) (hf : f < F) : casPre k t s f T lo S F ++ [((k : Int), (t : Int), lo + (s : Int), (f : Int))] <+: casK K T lo S F := by
  have h1 : casF k t (lo + s) f ++ [((k : Int), (t : Int), lo + (s : Int), (f : Int))] <+: casF k t (lo + s) F := map_prefix hf
  have h2 : casS k t lo s F ++ casF k t (lo + s) F <+: casS k t lo S F := flat_prefix (f := fun s => casF k t (lo + (s : Nat)) F) hs
  have h3 : casT k t lo S F ++ casS k t lo S F <+: casT k T lo S F := flat_prefix (f := fun t => casS k t lo S F) ht
  have h4 : casK k T lo S F ++ casT k T lo S F <+: casK K T lo S F := flat_prefix (f := fun k => casT k T lo S F) hk
  have e : casPre k t s f T lo S F ++ [((k : Int), (t : Int), lo + (s : Int), (f : Int))] = casK k T lo S F ++ (casT k t lo S F ++ (casS k t lo s F ++ (casF k t (lo + s) f ++ [((k : Int), (t : Int), lo + (s : Int), (f : Int))]))) := by
    unfold casPre; simp
  rw [e]
  exact pre_mono h4 (pre_mono h3 (pre_mono h2 h1))
theorem casPre_len {K k t s f T : Nat} {lo : Int} {S F : Nat} (hk : k < K) (ht : t < T) (hs : s < S) (hf : f < F) : (casPre k t s f T lo S F).length < (casK K T lo S F).length := by
  have := (casPre_prefix (lo := lo) hk ht hs hf).length_le
  simp at this; omega
theorem casPre_F {k t s T : Nat} {lo : Int} {S F : Nat} : casPre k t s F T lo S F = casPre k t (s + 1) 0 T lo S F := by
  unfold casPre; rw [casS_succ]; simp [casF]
theorem casPre_S {k t T : Nat} {lo : Int} {S F : Nat} : casPre k t S 0 T lo S F = casPre k (t + 1) 0 0 T lo S F := by
  unfold casPre; rw [casT_succ]; simp [casF, casS]
theorem casPre_T {k T : Nat} {lo : Int} {S F : Nat} : casPre k T 0 0 T lo S F = casPre (k + 1) 0 0 0 T lo S F := by
  unfold casPre; rw [casK_succ]; simp [casF, casS, casT]
theorem casPre_K {K T : Nat} {lo : Int} {S F : Nat} : casPre K 0 0 0 T lo S F = casK K T lo S F := by
  unfold casPre; simp [casF, casS, casT]
theorem casPre_0 {T : Nat} {lo : Int} {S F : Nat} : casPre 0 0 0 0 T lo S F = [] := by
  unfold casPre; simp [casF, casS, casT, casK]
end Go.Plain
