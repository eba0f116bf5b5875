/- Parts of the proof, joined. -/
import Derived.Test.YtflcnhmckeiacaaGreatDoorYa
import Derived.Test.YtflcnhmckeiacaaGreatDoorWc
import Derived.Test.YtflcnhmckeiacaaGreatDoorP
import Derived.Test.YtflcnhmckeiacaaGreatDoorWb
import Derived.Test.YtflcnhmckeiacaaGreatDoorWa
namespace Go.Proofs.Tryz
open Go.Fw Go.IntWalk Go.Plain
set_option maxRecDepth 100000
set_option maxHeartbeats 8000000
/-- A valid design. -/
structure DOK (a : List Int) (ts : List (List Int)) (lo hi : Int) (fl : List Fa) (l0 l1 l2 l3 : Int) : Prop where
  t0 : 0 < ts.length
  t4 : ts.length ≤ 4
  a12 : a.length ≤ 12
  win : ∀ t ∈ ts, windowErr a t = 0
  lo3 : -3 ≤ lo ∧ lo ≤ 3
  hi3 : -3 ≤ hi ∧ hi ≤ 3
  le : lo ≤ hi
  f0 : 0 < fl.length
  f4 : fl.length ≤ 4
  flt : ∀ f ∈ fl, fErr f = 0
  b0 : 1 ≤ l0 ∧ l0 ≤ 100000000
  b1 : 1 ≤ l1 ∧ l1 ≤ 100000000
  b2 : 1 ≤ l2 ∧ l2 ≤ 100000000
  b3 : 1 ≤ l3 ∧ l3 ≤ 100000000
theorem fs_zero {α : Type} {f : α → Int} {l : List α} (h : fs (l.map f) = 0) : ∀ x ∈ l, f x = 0 := by
  induction l with
  | nil => simp
  | cons y l ih =>
    rw [List.map_cons] at h
    unfold fs at h
    split at h
    · rename_i h1; exact absurd h h1
    · rename_i h1
      intro x hx
      rcases List.mem_cons.1 hx with rfl | hx
      · exact Classical.byContradiction fun e => h1 e
      · exact ih h x hx
theorem dErr_ok {a : List Int} {ts : List (List Int)} {lo hi : Int} {fl : List Fa} {l0 l1 l2 l3 : Int} (h : dErr a ts lo hi fl l0 l1 l2 l3 = 0) : DOK a ts lo hi fl l0 l1 l2 l3 := by
  unfold dErr at h
  by_cases h1 : dErr1 a ts ≠ 0
  · rw [if_pos h1] at h; exact absurd h h1
  rw [if_neg h1] at h
  by_cases h2 : tErr a ts ≠ 0
  · rw [if_pos h2] at h; exact absurd h h2
  rw [if_neg h2] at h
  by_cases h3 : dErr2 lo hi fl ≠ 0
  · rw [if_pos h3] at h; exact absurd h h3
  rw [if_neg h3] at h
  by_cases h4 : aErr fl ≠ 0
  · rw [if_pos h4] at h; exact absurd h h4
  rw [if_neg h4] at h
  have h1 : dErr1 a ts = 0 := Classical.byContradiction h1
  have h2 : tErr a ts = 0 := Classical.byContradiction h2
  have h3 : dErr2 lo hi fl = 0 := Classical.byContradiction h3
  have h4 : aErr fl = 0 := Classical.byContradiction h4
  have h5 : AllIn [l0, l1, l2, l3] 1 100000000 := by
    split at h
    · assumption
    · omega
  unfold dErr1 at h1
  unfold dErr2 at h3
  have ht : 0 < ts.length ∧ ts.length ≤ 4 ∧ a.length ≤ 12 := by
    (repeat' split at h1) <;> omega
  have hs : AllIn [lo, hi] (-3) 3 ∧ lo ≤ hi ∧ 0 < fl.length ∧ fl.length ≤ 4 := by
    (repeat' split at h3) <;> first | omega | (rename_i p q r s; exact ⟨p, q, r, s⟩)
  have q1 := hs.1 lo (by simp)
  have q2 := hs.1 hi (by simp)
  exact ⟨ht.1, ht.2.1, ht.2.2, fs_zero h2, q1, q2, hs.2.1, hs.2.2.1, hs.2.2.2, fs_zero h4, h5 l0 (by simp), h5 l1 (by simp), h5 l2 (by simp), h5 l3 (by simp)⟩
theorem DOK.lim {a : List Int} {ts : List (List Int)} {lo hi : Int} {fl : List Fa} {l0 l1 l2 l3 : Int} (h : DOK a ts lo hi fl l0 l1 l2 l3) (c : Ca) : 1 ≤ liF l0 l1 l2 l3 c ∧ liF l0 l1 l2 l3 c ≤ 100000000 := by
  have := h.b0; have := h.b1; have := h.b2; have := h.b3
  unfold liF
  (repeat' split) <;> omega
theorem DOK.vw {a : List Int} {ts : List (List Int)} {lo hi : Int} {fl : List Fa} {l0 l1 l2 l3 : Int} (h : DOK a ts lo hi fl l0 l1 l2 l3) {c : Ca} (hc : CaOK ts.length lo hi fl.length c) : VW a (tapF ts c) ∧ VW (shI a c.2.2.1) (shO (tapF ts c) c.2.2.1) := by
  obtain ⟨_, ⟨h2, h3⟩, ⟨h4, h5⟩, _⟩ := hc
  have hw : windowErr a (tapF ts c) = 0 := h.win _ (tap_mem (by omega))
  have hv := windowErr_zero.1 hw
  refine ⟨hv, VW.shift hv ?_⟩
  have := h.a12; have := h.lo3; have := h.hi3
  unfold shErr0 absI
  rw [if_pos (by omega), if_neg (by split <;> omega)]
theorem DOK.flt' {a : List Int} {ts : List (List Int)} {lo hi : Int} {fl : List Fa} {l0 l1 l2 l3 : Int} (h : DOK a ts lo hi fl l0 l1 l2 l3) {c : Ca} (hc : CaOK ts.length lo hi fl.length c) : fErr (faF fl c) = 0 :=
  h.flt _ (fault_mem (by have := hc.2.2.2; omega))
theorem pk_bounds {f : Fa} (h : fErr f = 0) : (0 ≤ pkA f ∧ pkA f ≤ 100000) ∧ (0 ≤ pkB f ∧ pkB f ≤ 100000) ∧ (0 ≤ pkN f ∧ pkN f ≤ 100000) ∧ (0 ≤ pkD f ∧ pkD f ≤ 100000) := by
  obtain ⟨h1, h2, h3, h4⟩ := peak_bounds h
  exact ⟨(low_bounds h1 h2).1, (low_bounds h1 h2).2, (low_bounds h3 h4).1, (low_bounds h3 h4).2⟩
theorem un_bounds {a b : List Int} {k : Int} (hv : VW a b) : 0 ≤ unitV a b k ∧ unitV a b k ≤ 9000000 := unL_bound (by decide) (kindL_bound hv k)
/-- The load of a case. -/
abbrev ldF (a : List Int) (ts : List (List Int)) (fl : List Fa) (l0 l1 l2 l3 : Int) (c : Ca) : Int × Int × Int × Int := (unF a ts c, pkN (faF fl c), pkD (faF fl c), liF l0 l1 l2 l3 c)
def qL (x : Int × Int × Int × Int) : Qn := (x.1 * x.2.1 * x.2.1, x.2.2.2 * x.2.2.1 * x.2.2.1)
/-- Bounds of a load. -/
def LB (x : Int × Int × Int × Int) : Prop := (0 ≤ x.1 ∧ x.1 ≤ 9000000) ∧ (0 ≤ x.2.1 ∧ x.2.1 ≤ 100000) ∧ (0 ≤ x.2.2.1 ∧ x.2.2.1 ≤ 100000) ∧ (1 ≤ x.2.2.2 ∧ x.2.2.2 ≤ 100000000)
section
variable (a : List Int) (ts : List (List Int)) (lo hi : Int) (fl : List Fa) (l0 l1 l2 l3 : Int)
theorem load_lb (h : DOK a ts lo hi fl l0 l1 l2 l3) {c : Ca} (hc : CaOK ts.length lo hi fl.length c) : LB (ldF a ts fl l0 l1 l2 l3 c) :=
  ⟨un_bounds (h.vw hc).2, (pk_bounds (h.flt' hc)).2.2.1, (pk_bounds (h.flt' hc)).2.2.2, h.lim c⟩
theorem mul_bd {x y A B : Int} (hx : 0 ≤ x ∧ x ≤ A) (hy : 0 ≤ y ∧ y ≤ B) : 0 ≤ x * y ∧ x * y ≤ A * B :=
  ⟨Int.mul_nonneg hx.1 hy.1, Int.mul_le_mul hx.2 hy.2 hy.1 (by omega)⟩
theorem parts_sat (x : Int × Int × Int × Int) (h : LB x) : Sat cx.P cx.gl 98 [F4i x] (.tup [I (qL x).1, I (qL x).2]) := by
  obtain ⟨u, n, d, l⟩ := x
  obtain ⟨h1, h2, h3, h4⟩ := h
  simp only at h1 h2 h3 h4
  have b1 := mul_bd h1 h2
  have b2 := mul_bd b1 h2
  have b3 := mul_bd (x := l) (y := d) ⟨by omega, h4.2⟩ h3
  have b4 := mul_bd b3 h3
  show Sat _ _ _ [(true, [J u, J n, J d, J l])] (.tup [I (u * n * n), I (l * d * d)])
  refine Sat_of_awp (fn := f98) cx_ok (by kernel_rfl) (by kernel_rfl) rfl (by kernel_rfl) (Nat.le_of_ble_eq_true rfl) ?_
  repeat ((first | refine oP rfl ?_ | refine rP rfl (fun _ z => z) ?_ | (refine kO 1 rfl ?_; refine rMul rfl rfl rfl (by omega) ?_) | (refine kO 3 rfl ?_; refine rLdb rfl rfl rfl rfl rfl rfl rfl ?_) | refine oN ?_ | refine aS ?_ | refine aR ?_ | refine aT ?_ | refine dI (by kernel_rfl) ?_); (try conv => whnf))
  (done)
theorem q_bounds {x : Int × Int × Int × Int} (h : LB x) : (0 ≤ (qL x).1 ∧ (qL x).1 < 2 ^ 63) ∧ (0 ≤ (qL x).2 ∧ (qL x).2 < 2 ^ 63) := by
  obtain ⟨u, n, d, l⟩ := x
  obtain ⟨h1, h2, h3, h4⟩ := h
  simp only at h1 h2 h3 h4
  have b1 := mul_bd h1 h2
  have b2 := mul_bd b1 h2
  have b3 := mul_bd (x := l) (y := d) ⟨by omega, h4.2⟩ h3
  have b4 := mul_bd b3 h3
  show (0 ≤ u * n * n ∧ u * n * n < 2 ^ 63) ∧ (0 ≤ l * d * d ∧ l * d * d < 2 ^ 63)
  omega
theorem loadLess_sat (x y : Int × Int × Int × Int) (hx : LB x) (hy : LB y) : Sat cx.P cx.gl 80 [F4i x, F4i y] (.one (Bo (decide (ltQ (qL x) (qL y))))) := by
  have g1 := parts_sat x hx
  have g2 := parts_sat y hy
  have b1 := q_bounds hx
  have b2 := q_bounds hy
  have e : ltQ (qL x) (qL y) ↔ (qL x).1 * (qL y).2 < (qL y).1 * (qL x).2 := Iff.rfl
  generalize hx' : qL x = p at *
  generalize hy' : qL y = q at *
  have t1 := times_sat p.1 q.2 b1.1 b2.2
  have t2 := times_sat q.1 p.2 b2.1 b1.2
  obtain ⟨x0, x1, x2, x3⟩ := x
  obtain ⟨y0, y1, y2, y3⟩ := y
  show Sat _ _ _ [(true, [J x0, J x1, J x2, J x3]), (true, [J y0, J y1, J y2, J y3])] _
  refine Sat_of_awp (fn := f80) cx_ok (by kernel_rfl) (by kernel_rfl) rfl (by kernel_rfl) (Nat.le_of_ble_eq_true rfl) ?_
  repeat ((first | refine oP rfl ?_ | refine rP rfl (fun _ z => z) ?_ | (refine kO 3 rfl ?_; refine rG (fun _ z => z) ?_) | (refine kO 7 rfl ?_; first | refine rG (fun _ z => ⟨_, g1, z⟩) ?_ | refine rG (fun _ z => ⟨_, g2, z⟩) ?_ | refine rG (fun _ z => ⟨_, t1, z⟩) ?_ | refine rG (fun _ z => ⟨_, t2, z⟩) ?_ | refine rG (fun _ z => ⟨_, less_sat _ _ _ _, z⟩) ?_) | refine oN ?_ | refine aS ?_ | refine aR ?_ | refine aT ?_); (try conv => whnf))
  refine res_bo ?_
  rw [Bool.eq_iff_iff]
  simp only [decide_eq_true_eq, e]
  generalize p.1 * q.2 = X
  generalize q.1 * p.2 = Y
  omega
theorem windowC_sat (k : Int) (t : Nat) (s f : Int) (ht : t < ts.length) (ha : a.length ≤ 20) (hb : (ts.getD t []).length ≤ 20) (hs : -3 ≤ s ∧ s ≤ 3) :
    Sat cx.P cx.gl 30 [Ds a ts lo hi fl l0 l1 l2 l3, (true, [J k, J (t : Int), J s, J f])] (.one (W2 (shI a s) (shO (ts.getD t []) s))) := by
  have h1 := tap_get ht
  have g := shifted_sat a (ts.getD t []) s ha hb hs
  refine Sat_of_awp (fn := f30) cx_ok (by kernel_rfl) (by kernel_rfl) rfl (by kernel_rfl) (Nat.le_of_ble_eq_true rfl) ?_
  repeat ((first | refine oP rfl ?_ | refine rP rfl (fun _ z => z) ?_ | (refine kO 3 rfl ?_; first | refine rLdr rfl rfl rfl rfl rfl ?_ | refine rLdb rfl rfl rfl rfl rfl rfl rfl ?_) | (refine kO 4 rfl ?_; refine rG (fun _ z => z) ?_) | (refine kO 5 rfl ?_; refine rIdvN rfl rfl rfl rfl rfl rfl (by assumption) rfl ?_) | (refine kO 7 rfl ?_; refine rG (fun _ z => ⟨_, g, z⟩) ?_) | refine oN ?_ | refine aS ?_ | refine aR ?_ | refine aT ?_ | refine dI (by kernel_rfl) ?_); (try conv => whnf))
  (rfl)
theorem load_sat (h : DOK a ts lo hi fl l0 l1 l2 l3) (c : Ca) (hc : CaOK ts.length lo hi fl.length c) : Sat cx.P cx.gl 51 [Ds a ts lo hi fl l0 l1 l2 l3, CaX c] (.one (F4i (ldF a ts fl l0 l1 l2 l3 c))) := by
  have hv := h.vw hc
  have hfe := h.flt' hc
  have hl := hv.1.len
  have hle := hv.1.le
  have hlo := h.lo3
  have hhi := h.hi3
  obtain ⟨⟨k1, k2⟩, ⟨t1, t2⟩, ⟨s1, s2⟩, ⟨f1, f2⟩⟩ := hc
  obtain ⟨k, t, s, f⟩ := c
  simp only at k1 k2 t1 t2 s1 s2 f1 f2
  obtain ⟨tn, rfl⟩ : ∃ n : Nat, t = n := ⟨t.toNat, by omega⟩
  obtain ⟨fn, rfl⟩ : ∃ n : Nat, f = n := ⟨f.toNat, by omega⟩
  have g1 := windowC_sat a ts lo hi fl l0 l1 l2 l3 k tn s fn (by omega) (by omega) (by show (tapF ts (k, (tn : Int), s, (fn : Int))).length ≤ 20; omega) (by omega)
  have g2 := unit_sat _ _ k hv.2 (by omega)
  have hfg := fault_get (fl := fl) (f := fn) (by omega)
  have g3 := peak_sat _ _ _ _ _ _ hfe
  have h4' : k = 0 ∨ k = 1 ∨ k = 2 ∨ k = 3 := by omega
  rcases h4' with rfl | rfl | rfl | rfl
  all_goals
    show Sat _ _ _ [_, (true, [J _, J _, J _, J _])] _
    refine Sat_of_awp (fn := f51) cx_ok (by kernel_rfl) (by kernel_rfl) rfl (by kernel_rfl) (Nat.le_of_ble_eq_true rfl) ?_
    repeat ((first | refine oP rfl ?_ | refine rP rfl (fun _ z => z) ?_ | (refine kO 3 rfl ?_; first | refine rLdb rfl rfl rfl rfl rfl rfl rfl ?_ | refine rG (fun _ z => z) ?_) | (refine kO 4 rfl ?_; refine rG (fun _ z => z) ?_) | (refine kO 5 rfl ?_; refine rIdvN rfl rfl rfl rfl rfl rfl (by assumption) rfl ?_) | (refine kO 7 rfl ?_; first | refine rG (fun _ z => ⟨_, g1, z⟩) ?_ | refine rG (fun _ z => ⟨_, g2, z⟩) ?_ | refine rG (fun _ z => ⟨_, g3, z⟩) ?_) | refine oN ?_ | refine aS ?_ | refine aR ?_ | refine aT ?_ | refine dI (by kernel_rfl) ?_ | refine rG (fun _ z => ⟨(by (omega)), z⟩) ?_); (try conv => whnf))
    (rfl)
end
end Go.Proofs.Tryz

namespace Go.Proofs.Tryz
open Go.Fw Go.IntWalk Go.Plain
set_option maxRecDepth 100000
set_option maxHeartbeats 8000000
section
variable (a : List Int) (ts : List (List Int)) (lo hi : Int) (fl : List Fa) (l0 l1 l2 l3 : Int)
/-- The load of a case as a fraction; any one if the case is none. -/
def rC (c : Ca) : Qn := if 0 < (qL (ldF a ts fl l0 l1 l2 l3 c)).2 then qL (ldF a ts fl l0 l1 l2 l3 c) else (0, 1)
def ltC (c d : Ca) : Bool := decide (ltQ (rC a ts fl l0 l1 l2 l3 c) (rC a ts fl l0 l1 l2 l3 d))
theorem ltC_ord : Ord (ltC a ts fl l0 l1 l2 l3) := ord_of fun c => by
  unfold rC posQ
  split
  · assumption
  · decide
theorem lowD_pos {n d : Int} (h : 0 < d) : 0 < lowD n d := lowDen_pos h
theorem pkD_pos {f : Fa} (h : fErr f = 0) : 0 < pkD f ∧ 0 < pkB f := by
  obtain ⟨_, h2, _, h4⟩ := peak_bounds h
  exact ⟨lowD_pos (by omega), lowD_pos (by omega)⟩
theorem rC_eq (h : DOK a ts lo hi fl l0 l1 l2 l3) {c : Ca} (hc : CaOK ts.length lo hi fl.length c) : rC a ts fl l0 l1 l2 l3 c = qL (ldF a ts fl l0 l1 l2 l3 c) := by
  unfold rC
  rw [if_pos]
  have h1 := (pkD_pos (h.flt' hc)).1
  have h2 := (h.lim c).1
  exact Int.mul_pos (Int.mul_pos (show 0 < liF l0 l1 l2 l3 c by omega) h1) h1
/-- The worst case. -/
def worstC : Ca := best (ltC a ts fl l0 l1 l2 l3) (casL ts.length lo hi fl.length).tail (0, 0, lo, 0)
theorem cas_cons (h : DOK a ts lo hi fl l0 l1 l2 l3) : casL ts.length lo hi fl.length = (0, 0, lo, 0) :: (casL ts.length lo hi fl.length).tail := by
  obtain ⟨l, hl⟩ := casL_head h.t0 h.le h.f0
  rw [hl]; rfl
theorem worstC_mem (h : DOK a ts lo hi fl l0 l1 l2 l3) : CaOK ts.length lo hi fl.length (worstC a ts lo hi fl l0 l1 l2 l3) := by
  refine casL_mem.1 ?_
  rw [cas_cons a ts lo hi fl l0 l1 l2 l3 h]
  exact first_mem (best_first (ltC_ord a ts fl l0 l1 l2 l3) _ _).1
theorem worstC_max (h : DOK a ts lo hi fl l0 l1 l2 l3) : ∀ c ∈ casL ts.length lo hi fl.length, ltC a ts fl l0 l1 l2 l3 (worstC a ts lo hi fl l0 l1 l2 l3) c = false := by
  intro c hc
  rw [cas_cons a ts lo hi fl l0 l1 l2 l3 h] at hc
  exact (best_first (ltC_ord a ts fl l0 l1 l2 l3) _ _).2 c hc
/-- The first case that is worse than another one. -/
def worseC (c : Ca) : Option Ca := (casL ts.length lo hi fl.length).find? fun d => ltC a ts fl l0 l1 l2 l3 c d
theorem find_congr {α : Type} {p q : α → Bool} {l : List α} (h : ∀ x ∈ l, p x = q x) : l.find? p = l.find? q := by
  induction l with
  | nil => rfl
  | cons y l ih =>
    rw [List.find?_cons, List.find?_cons, h y List.mem_cons_self, ih fun x hx => h x (List.mem_cons_of_mem _ hx)]
theorem worseF_sat (h : DOK a ts lo hi fl l0 l1 l2 l3) (c : Ca) (hc : CaOK ts.length lo hi fl.length c) :
    Sat cx.P cx.gl 50 [Ds a ts lo hi fl l0 l1 l2 l3, F4i (ldF a ts fl l0 l1 l2 l3 c)] (.tup (match worseC a ts lo hi fl l0 l1 l2 l3 c with | some c => [CaX c, Bo true] | none => [CaX (0, 0, 0, 0), Bo false])) := by
  have e : worseC a ts lo hi fl l0 l1 l2 l3 c = (casL ts.length lo hi fl.length).find? fun d => decide (ltQ (qL (ldF a ts fl l0 l1 l2 l3 c)) (qL (ldF a ts fl l0 l1 l2 l3 d))) := by
    refine find_congr fun d hd => ?_
    unfold ltC
    rw [rC_eq a ts lo hi fl l0 l1 l2 l3 h hc, rC_eq a ts lo hi fl l0 l1 l2 l3 h (casL_mem.1 hd)]
  rw [e]
  have := h.t4
  have := h.f4
  exact worse_sat a ts lo hi fl l0 l1 l2 l3 _ (ldF a ts fl l0 l1 l2 l3) _ (by omega) (by omega) h.lo3 h.hi3 (fun d hd => load_sat a ts lo hi fl l0 l1 l2 l3 h d (casL_mem.1 hd))
    fun d hd => loadLess_sat _ _ (load_lb a ts lo hi fl l0 l1 l2 l3 h hc) (load_lb a ts lo hi fl l0 l1 l2 l3 h (casL_mem.1 hd))
theorem worstOf_sat (h : DOK a ts lo hi fl l0 l1 l2 l3) (h0 : Sat cx.P cx.gl 28 [Ds a ts lo hi fl l0 l1 l2 l3] (.tup [Ds a ts lo hi fl l0 l1 l2 l3, I 0])) :
    Sat cx.P cx.gl 16 [Ds a ts lo hi fl l0 l1 l2 l3] (.tup [CaX (worstC a ts lo hi fl l0 l1 l2 l3), I 0]) := by
  have hord := ltC_ord a ts fl l0 l1 l2 l3
  have hcons := cas_cons a ts lo hi fl l0 l1 l2 l3 h
  refine Sat_of_awp (fn := f16) cx_ok (by kernel_rfl) (by kernel_rfl) rfl (by kernel_rfl) (Nat.le_of_ble_eq_true rfl) ?_
  repeat ((first | refine oP rfl ?_ | refine rP rfl (fun _ z => z) ?_ | (refine kO 1 rfl ?_; refine rG (fun _ z => z) ?_) | (refine kO 3 rfl ?_; first | refine rLdb rfl rfl rfl rfl rfl rfl rfl ?_ | refine rG (fun _ z => z) ?_) | (refine kO 4 rfl ?_; refine rG (fun _ z => z) ?_) | (refine kO 7 rfl ?_; refine rG (fun _ z => ⟨_, h0, z⟩) ?_) | refine oN ?_ | refine aS ?_ | refine aR ?_ | refine aK ?_ | refine aB ?_ | refine aC rfl ?_ | refine bF ?_ | refine aL ?_); (try conv => whnf))
  refine loop_ind (ι := Ca) (fun c => CaOK ts.length lo hi fl.length c ∧ First (ltC a ts fl l0 l1 l2 l3) (casL ts.length lo hi fl.length) c) (fun c => above (ltC a ts fl l0 l1 l2 l3) (casL ts.length lo hi fl.length) c)
    (fun c => ⟨[(2, pP 0), (4, pP 1), (6, pP 2)], [(0, some (.box 31 [.st (J 0), .st (J 0), .st (J 0), .st (J 0)])), (1, bDs a ts lo hi fl l0 l1 l2 l3 74), (2, some (.box 31 [.st (J c.1), .st (J c.2.1), .st (J c.2.2.1), .st (J c.2.2.2)]))], 3⟩)
    (0, 0, lo, 0) (canon_auto (by kernel_rfl)) ⟨casL_mem.1 (by rw [hcons]; simp), by rw [hcons]; exact first_self _ _⟩ ?_
  rintro c ⟨hc, hfirst⟩
  have g1 := load_sat a ts lo hi fl l0 l1 l2 l3 h c hc
  have g2 := worseF_sat a ts lo hi fl l0 l1 l2 l3 h c hc
  cases hw : worseC a ts lo hi fl l0 l1 l2 l3 c with
  | none =>
    rw [hw] at g2
    have e : c = worstC a ts lo hi fl l0 l1 l2 l3 := by
      rw [hcons] at hfirst
      unfold worseC at hw
      rw [hcons] at hw
      exact worst_end hord hfirst hw
    obtain ⟨k, t, s, f⟩ := c
    repeat ((first | refine oP rfl ?_ | refine rP rfl (fun _ z => z) ?_ | (refine kO 2 rfl ?_; refine rG (fun _ z => z) ?_) | (refine kO 3 rfl ?_; refine rG (fun _ z => z) ?_) | (refine kO 4 rfl ?_; refine rG (fun _ z => z) ?_) | (refine kO 7 rfl ?_; first | refine rG (fun _ z => ⟨_, g1, z⟩) ?_ | refine rG (fun _ z => ⟨_, g2, z⟩) ?_) | refine oN ?_ | refine aS ?_ | refine aR ?_ | refine aB ?_ | refine aT ?_ | refine aC rfl ?_ | refine bT ?_ | refine dI (by kernel_rfl) ?_); (try conv => whnf))
    rw [← e]
    (rfl)
  | some d =>
    rw [hw] at g2
    have hd : CaOK ts.length lo hi fl.length d := casL_mem.1 (List.mem_of_find?_eq_some hw)
    obtain ⟨hf, hlt⟩ := first_next hord hw
    have hab := above_less hord hlt (List.mem_of_find?_eq_some hw)
    obtain ⟨k, t, s, f⟩ := c
    obtain ⟨k', t', s', f'⟩ := d
    repeat ((first | refine oP rfl ?_ | refine rP rfl (fun _ z => z) ?_ | (refine kO 2 rfl ?_; refine rG (fun _ z => z) ?_) | (refine kO 3 rfl ?_; refine rG (fun _ z => z) ?_) | (refine kO 4 rfl ?_; refine rG (fun _ z => z) ?_) | (refine kO 7 rfl ?_; first | refine rG (fun _ z => ⟨_, g1, z⟩) ?_ | refine rG (fun _ z => ⟨_, g2, z⟩) ?_) | refine oN ?_ | refine aS ?_ | refine aR ?_ | refine aK ?_ | refine aB ?_ | refine aC rfl ?_ | refine bF ?_ | refine dI (by kernel_rfl) ?_); (try conv => whnf))
    exact ⟨(k', t', s', f'), ⟨hd, hf⟩, hab, canon_auto (by kernel_rfl)⟩
theorem worstOf_err (e : Int) (he : e ≠ 0) (h0 : Sat cx.P cx.gl 28 [Ds a ts lo hi fl l0 l1 l2 l3] (.tup [Ds a ts lo hi fl l0 l1 l2 l3, I e])) :
    Sat cx.P cx.gl 16 [Ds a ts lo hi fl l0 l1 l2 l3] (.tup [CaX (0, 0, 0, 0), I e]) := by
  refine Sat_of_awp (fn := f16) cx_ok (by kernel_rfl) (by kernel_rfl) rfl (by kernel_rfl) (Nat.le_of_ble_eq_true rfl) ?_
  repeat ((first | refine oP rfl ?_ | refine rP rfl (fun _ z => z) ?_ | (refine kO 1 rfl ?_; refine rG (fun _ z => z) ?_) | (refine kO 3 rfl ?_; refine rG (fun _ z => z) ?_) | (refine kO 4 rfl ?_; refine rG (fun _ z => z) ?_) | (refine kO 7 rfl ?_; refine rG (fun _ z => ⟨_, h0, z⟩) ?_) | refine oN ?_ | refine aS ?_ | refine aR ?_ | refine aT ?_ | refine aC rfl ?_ | refine bPt (by omega) ?_); (try conv => whnf))
  (rfl)
/-- What CheckWorst hands back. -/
def chk (c : Ca) : Ca × Int := match worseC a ts lo hi fl l0 l1 l2 l3 c with | some d => (d, 19) | none => ((0, 0, 0, 0), 0)
theorem checkWorst_sat (h : DOK a ts lo hi fl l0 l1 l2 l3) (c : Ca) (hc : CaOK ts.length lo hi fl.length c) (h0 : Sat cx.P cx.gl 28 [Ds a ts lo hi fl l0 l1 l2 l3] (.tup [Ds a ts lo hi fl l0 l1 l2 l3, I 0])) :
    Sat cx.P cx.gl 17 [Ds a ts lo hi fl l0 l1 l2 l3, CaX c] (.tup [CaX (chk a ts lo hi fl l0 l1 l2 l3 c).1, I (chk a ts lo hi fl l0 l1 l2 l3 c).2]) := by
  have g0 := caseErr_sat a ts lo hi fl l0 l1 l2 l3 c (by have := h.t4; omega) (by have := h.f4; omega)
  rw [cErr_zero.2 hc] at g0
  have g1 := load_sat a ts lo hi fl l0 l1 l2 l3 h c hc
  have g2 := worseF_sat a ts lo hi fl l0 l1 l2 l3 h c hc
  unfold chk
  cases hw : worseC a ts lo hi fl l0 l1 l2 l3 c with
  | none =>
    rw [hw] at g2
    obtain ⟨k, t, s, f⟩ := c
    show Sat _ _ _ [_, (true, [J k, J t, J s, J f])] _
    refine Sat_of_awp (fn := f17) cx_ok (by kernel_rfl) (by kernel_rfl) rfl (by kernel_rfl) (Nat.le_of_ble_eq_true rfl) ?_
    repeat ((first | refine oP rfl ?_ | refine rP rfl (fun _ z => z) ?_ | (refine kO 1 rfl ?_; refine rG (fun _ z => z) ?_) | (refine kO 2 rfl ?_; refine rG (fun _ z => z) ?_) | (refine kO 3 rfl ?_; refine rG (fun _ z => z) ?_) | (refine kO 4 rfl ?_; refine rG (fun _ z => z) ?_) | (refine kO 7 rfl ?_; first | refine rG (fun _ z => ⟨_, h0, z⟩) ?_ | refine rG (fun _ z => ⟨_, g0, z⟩) ?_ | refine rG (fun _ z => ⟨_, g1, z⟩) ?_ | refine rG (fun _ z => ⟨_, g2, z⟩) ?_ | refine rG (fun _ z => ⟨_, unless_p _, z⟩) ?_) | refine oN ?_ | refine aS ?_ | refine aR ?_ | refine aK ?_ | refine aT ?_ | refine aC rfl ?_ | refine bT ?_ | refine bF ?_ | refine dI (by kernel_rfl) ?_); (try conv => whnf))
    (rfl)
  | some d =>
    rw [hw] at g2
    obtain ⟨k, t, s, f⟩ := c
    obtain ⟨k', t', s', f'⟩ := d
    show Sat _ _ _ [_, (true, [J k, J t, J s, J f])] _
    refine Sat_of_awp (fn := f17) cx_ok (by kernel_rfl) (by kernel_rfl) rfl (by kernel_rfl) (Nat.le_of_ble_eq_true rfl) ?_
    repeat ((first | refine oP rfl ?_ | refine rP rfl (fun _ z => z) ?_ | (refine kO 1 rfl ?_; refine rG (fun _ z => z) ?_) | (refine kO 2 rfl ?_; refine rG (fun _ z => z) ?_) | (refine kO 3 rfl ?_; refine rG (fun _ z => z) ?_) | (refine kO 4 rfl ?_; refine rG (fun _ z => z) ?_) | (refine kO 7 rfl ?_; first | refine rG (fun _ z => ⟨_, h0, z⟩) ?_ | refine rG (fun _ z => ⟨_, g0, z⟩) ?_ | refine rG (fun _ z => ⟨_, g1, z⟩) ?_ | refine rG (fun _ z => ⟨_, g2, z⟩) ?_ | refine rG (fun _ z => ⟨_, unless_p _, z⟩) ?_) | refine oN ?_ | refine aS ?_ | refine aR ?_ | refine aK ?_ | refine aT ?_ | refine aC rfl ?_ | refine bT ?_ | refine bF ?_ | refine dI (by kernel_rfl) ?_); (try conv => whnf))
    (rfl)
theorem checkWorst_err (e : Int) (he : e ≠ 0) (c : Ca) (h0 : Sat cx.P cx.gl 28 [Ds a ts lo hi fl l0 l1 l2 l3] (.tup [Ds a ts lo hi fl l0 l1 l2 l3, I e])) :
    Sat cx.P cx.gl 17 [Ds a ts lo hi fl l0 l1 l2 l3, CaX c] (.tup [CaX (0, 0, 0, 0), I e]) := by
  obtain ⟨k, t, s, f⟩ := c
  show Sat _ _ _ [_, (true, [J k, J t, J s, J f])] _
  refine Sat_of_awp (fn := f17) cx_ok (by kernel_rfl) (by kernel_rfl) rfl (by kernel_rfl) (Nat.le_of_ble_eq_true rfl) ?_
  repeat ((first | refine oP rfl ?_ | refine rP rfl (fun _ z => z) ?_ | (refine kO 1 rfl ?_; refine rG (fun _ z => z) ?_) | (refine kO 3 rfl ?_; refine rG (fun _ z => z) ?_) | (refine kO 4 rfl ?_; refine rG (fun _ z => z) ?_) | (refine kO 7 rfl ?_; refine rG (fun _ z => ⟨_, h0, z⟩) ?_) | refine oN ?_ | refine aS ?_ | refine aR ?_ | refine aK ?_ | refine aT ?_ | refine aC rfl ?_ | refine bPt (by omega) ?_ | refine bPf (by omega) ?_); (try conv => whnf))
  (rfl)
theorem checkWorst_cerr (h : DOK a ts lo hi fl l0 l1 l2 l3) (c : Ca) (hc : cErr ts.length lo hi fl.length c ≠ 0) (h0 : Sat cx.P cx.gl 28 [Ds a ts lo hi fl l0 l1 l2 l3] (.tup [Ds a ts lo hi fl l0 l1 l2 l3, I 0])) :
    Sat cx.P cx.gl 17 [Ds a ts lo hi fl l0 l1 l2 l3, CaX c] (.tup [CaX (0, 0, 0, 0), I (cErr ts.length lo hi fl.length c)]) := by
  have g0 := caseErr_sat a ts lo hi fl l0 l1 l2 l3 c (by have := h.t4; omega) (by have := h.f4; omega)
  obtain ⟨k, t, s, f⟩ := c
  generalize cErr ts.length lo hi fl.length (k, t, s, f) = e at *
  show Sat _ _ _ [_, (true, [J k, J t, J s, J f])] _
  refine Sat_of_awp (fn := f17) cx_ok (by kernel_rfl) (by kernel_rfl) rfl (by kernel_rfl) (Nat.le_of_ble_eq_true rfl) ?_
  repeat ((first | refine oP rfl ?_ | refine rP rfl (fun _ z => z) ?_ | (refine kO 1 rfl ?_; refine rG (fun _ z => z) ?_) | (refine kO 3 rfl ?_; refine rG (fun _ z => z) ?_) | (refine kO 4 rfl ?_; refine rG (fun _ z => z) ?_) | (refine kO 7 rfl ?_; first | refine rG (fun _ z => ⟨_, h0, z⟩) ?_ | refine rG (fun _ z => ⟨_, g0, z⟩) ?_) | refine oN ?_ | refine aS ?_ | refine aR ?_ | refine aT ?_ | refine aC rfl ?_ | refine bT ?_ | refine bPt (by omega) ?_); (try conv => whnf))
  (rfl)
theorem windowOf_err (e : Int) (he : e ≠ 0) (c : Ca) (h0 : Sat cx.P cx.gl 28 [Ds a ts lo hi fl l0 l1 l2 l3] (.tup [Ds a ts lo hi fl l0 l1 l2 l3, I e])) :
    Sat cx.P cx.gl 7 [Ds a ts lo hi fl l0 l1 l2 l3, CaX c] (.tup [W2 [] [], I e]) := by
  obtain ⟨k, t, s, f⟩ := c
  show Sat _ _ _ [_, (true, [J k, J t, J s, J f])] _
  refine Sat_of_awp (fn := f7) cx_ok (by kernel_rfl) (by kernel_rfl) rfl (by kernel_rfl) (Nat.le_of_ble_eq_true rfl) ?_
  repeat ((first | refine oP rfl ?_ | refine rP rfl (fun _ z => z) ?_ | (refine kO 1 rfl ?_; refine rG (fun _ z => z) ?_) | (refine kO 3 rfl ?_; refine rG (fun _ z => z) ?_) | (refine kO 4 rfl ?_; refine rG (fun _ z => z) ?_) | (refine kO 7 rfl ?_; refine rG (fun _ z => ⟨_, h0, z⟩) ?_) | refine oN ?_ | refine aS ?_ | refine aR ?_ | refine aK ?_ | refine aT ?_ | refine aC rfl ?_ | refine bPt (by omega) ?_ | refine bPf (by omega) ?_); (try conv => whnf))
  (rfl)
theorem windowOf_cerr (h : DOK a ts lo hi fl l0 l1 l2 l3) (c : Ca) (hc : cErr ts.length lo hi fl.length c ≠ 0) (h0 : Sat cx.P cx.gl 28 [Ds a ts lo hi fl l0 l1 l2 l3] (.tup [Ds a ts lo hi fl l0 l1 l2 l3, I 0])) :
    Sat cx.P cx.gl 7 [Ds a ts lo hi fl l0 l1 l2 l3, CaX c] (.tup [W2 [] [], I (cErr ts.length lo hi fl.length c)]) := by
  have g0 := caseErr_sat a ts lo hi fl l0 l1 l2 l3 c (by have := h.t4; omega) (by have := h.f4; omega)
  obtain ⟨k, t, s, f⟩ := c
  generalize cErr ts.length lo hi fl.length (k, t, s, f) = e at *
  show Sat _ _ _ [_, (true, [J k, J t, J s, J f])] _
  refine Sat_of_awp (fn := f7) cx_ok (by kernel_rfl) (by kernel_rfl) rfl (by kernel_rfl) (Nat.le_of_ble_eq_true rfl) ?_
  repeat ((first | refine oP rfl ?_ | refine rP rfl (fun _ z => z) ?_ | (refine kO 1 rfl ?_; refine rG (fun _ z => z) ?_) | (refine kO 3 rfl ?_; refine rG (fun _ z => z) ?_) | (refine kO 4 rfl ?_; refine rG (fun _ z => z) ?_) | (refine kO 7 rfl ?_; first | refine rG (fun _ z => ⟨_, h0, z⟩) ?_ | refine rG (fun _ z => ⟨_, g0, z⟩) ?_) | refine oN ?_ | refine aS ?_ | refine aR ?_ | refine aT ?_ | refine aC rfl ?_ | refine bT ?_ | refine bPt (by omega) ?_); (try conv => whnf))
  (rfl)
theorem windowOf_sat (h : DOK a ts lo hi fl l0 l1 l2 l3) (c : Ca) (hc : CaOK ts.length lo hi fl.length c) (h0 : Sat cx.P cx.gl 28 [Ds a ts lo hi fl l0 l1 l2 l3] (.tup [Ds a ts lo hi fl l0 l1 l2 l3, I 0])) :
    Sat cx.P cx.gl 7 [Ds a ts lo hi fl l0 l1 l2 l3, CaX c] (.tup [W2 (shI a c.2.2.1) (shO (tapF ts c) c.2.2.1), I 0]) := by
  have g0 := caseErr_sat a ts lo hi fl l0 l1 l2 l3 c (by have := h.t4; omega) (by have := h.f4; omega)
  rw [cErr_zero.2 hc] at g0
  have hv := h.vw hc
  have hl := hv.1.len
  have hle := hv.1.le
  have hlo := h.lo3
  have hhi := h.hi3
  obtain ⟨⟨k1, k2⟩, ⟨t1, t2⟩, ⟨s1, s2⟩, ⟨f1, f2⟩⟩ := hc
  obtain ⟨k, t, s, f⟩ := c
  simp only at k1 k2 t1 t2 s1 s2 f1 f2
  obtain ⟨tn, rfl⟩ : ∃ n : Nat, t = n := ⟨t.toNat, by omega⟩
  have g1 := windowC_sat a ts lo hi fl l0 l1 l2 l3 k tn s f (by omega) (by omega) (by show (tapF ts (k, (tn : Int), s, f)).length ≤ 20; omega) (by omega)
  show Sat _ _ _ [_, (true, [J k, J (tn : Int), J s, J f])] _
  refine Sat_of_awp (fn := f7) cx_ok (by kernel_rfl) (by kernel_rfl) rfl (by kernel_rfl) (Nat.le_of_ble_eq_true rfl) ?_
  repeat ((first | refine oP rfl ?_ | refine rP rfl (fun _ z => z) ?_ | (refine kO 1 rfl ?_; refine rG (fun _ z => z) ?_) | (refine kO 3 rfl ?_; refine rG (fun _ z => z) ?_) | (refine kO 4 rfl ?_; refine rG (fun _ z => z) ?_) | (refine kO 7 rfl ?_; first | refine rG (fun _ z => ⟨_, h0, z⟩) ?_ | refine rG (fun _ z => ⟨_, g0, z⟩) ?_ | refine rG (fun _ z => ⟨_, g1, z⟩) ?_) | refine oN ?_ | refine aS ?_ | refine aR ?_ | refine aK ?_ | refine aT ?_ | refine aC rfl ?_ | refine bT ?_ | refine bF ?_); (try conv => whnf))
  (rfl)
/-- The answer at a case. -/
def anC (c : Ca) : Int := holdsV (pkA (faF fl c)) (pkB (faF fl c)) (pkN (faF fl c)) (pkD (faF fl c)) (unF a ts c) (liF l0 l1 l2 l3 c)
def wsV : Int := leastF (anC a ts fl l0 l1 l2 l3) (casL ts.length lo hi fl.length) 2
theorem withstandsF_sat (h : DOK a ts lo hi fl l0 l1 l2 l3) (h0 : Sat cx.P cx.gl 28 [Ds a ts lo hi fl l0 l1 l2 l3] (.tup [Ds a ts lo hi fl l0 l1 l2 l3, I 0])) :
    Sat cx.P cx.gl 9 [Ds a ts lo hi fl l0 l1 l2 l3] (.tup [I (wsV a ts lo hi fl l0 l1 l2 l3), I 0]) := by
  have := h.t4
  have := h.f4
  refine withstands_sat a ts lo hi fl l0 l1 l2 l3 (fun c => (pkA (faF fl c), pkB (faF fl c), pkN (faF fl c), pkD (faF fl c))) (fun c => shI a c.2.2.1) (fun c => shO (tapF ts c) c.2.2.1) (unF a ts) (anC a ts fl l0 l1 l2 l3) (by omega) (by omega) h.lo3 h.hi3 h0
    (fun c hc => peak_sat _ _ _ _ _ _ (h.flt' (casL_mem.1 hc))) (fun c hc => ?_) (fun c hc => unit_sat _ _ c.1 (h.vw (casL_mem.1 hc)).2 (casL_mem.1 hc).1) fun c hc => ?_
  · have hc := casL_mem.1 hc
    have hv := h.vw hc
    have hl := hv.1.len
    have hle := hv.1.le
    have hlo := h.lo3
    have hhi := h.hi3
    obtain ⟨⟨k1, k2⟩, ⟨t1, t2⟩, ⟨s1, s2⟩, ⟨f1, f2⟩⟩ := hc
    obtain ⟨k, t, s, f⟩ := c
    simp only at k1 k2 t1 t2 s1 s2 f1 f2
    obtain ⟨tn, rfl⟩ : ∃ n : Nat, t = n := ⟨t.toNat, by omega⟩
    exact windowC_sat a ts lo hi fl l0 l1 l2 l3 k tn s f (by omega) (by omega) (by show (tapF ts (k, (tn : Int), s, f)).length ≤ 20; omega) (by omega)
  · have hc := casL_mem.1 hc
    obtain ⟨h1, h2, h3, h4⟩ := pk_bounds (h.flt' hc)
    have hu := un_bounds (k := c.1) (h.vw hc).2
    have hl := h.lim c
    exact holds_sat _ _ _ _ _ _ ⟨hu.1, by have := hu.2; unfold unF; omega⟩ h1 h2 h3 h4 ⟨show 0 ≤ liF l0 l1 l2 l3 c by omega, show liF l0 l1 l2 l3 c < 2 ^ 63 by omega⟩
end
end Go.Proofs.Tryz

namespace Go.Proofs.Tryz
open Go.Fw Go.IntWalk Go.Plain
set_option maxRecDepth 100000
set_option maxHeartbeats 8000000
abbrev tsV (ts : List (List Int)) : List (List SC) := ts.map fun t => [.ints t]
theorem tsV_take {ts : List (List Int)} {i : Nat} (h : i < ts.length) : tsV (ts.take (i + 1)) = tsV (ts.take i) ++ [[.ints (ts.getD i [])]] := by
  rw [take_snoc (d := []) h]; simp [tsV]
theorem copyLists_sat (ts : List (List Int)) (hT : ts.length ≤ 1000000) (ht : ∀ t ∈ ts, t.length ≤ 1000000) : Sat cx.P cx.gl 32 [(false, [.view (tsV ts)])] (.own 1 (.view (tsV ts))) := by
  have hl : (tsV ts).length = ts.length := List.length_map _
  refine Sat_of_awp (fn := f32) cx_ok (by kernel_rfl) (by kernel_rfl) rfl (by kernel_rfl) (Nat.le_of_ble_eq_true rfl) ?_
  repeat ((first | refine oP rfl ?_ | refine rP rfl (fun _ z => z) ?_ | (refine kO 1 rfl ?_; first | refine rAdd rfl rfl rfl (by omega) ?_ | refine rSub rfl rfl rfl (by omega) ?_ | refine rMul rfl rfl rfl (by omega) ?_ | refine rQuo rfl rfl rfl (by omega) ?_ | refine rRem rfl rfl rfl (by omega) ?_ | refine rQuo' rfl rfl rfl (by omega) ?_ | refine rRem' rfl rfl rfl (by omega) ?_ | refine rG (fun _ z => z) ?_) | (refine kO 2 rfl ?_; first | refine rNeg rfl rfl (by omega) ?_ | refine rG (fun _ z => z) ?_) | (refine kO 3 rfl ?_; first | refine rLdr rfl rfl rfl rfl rfl ?_ | refine rLdb rfl rfl rfl rfl rfl rfl rfl ?_ | refine rLdi rfl rfl rfl rfl rfl rfl (by first | omega | decide | exact Nat.le_of_ble_eq_true rfl | (dsimp only [SC.len]; omega) | (simp; done) | (simp; omega) | omega) ?_ | refine rG (fun _ z => z) ?_ | refine rG (fun _ z => ⟨_, rfl, z⟩) ?_ | refine rG (fun _ z => ⟨_, (by assumption), z⟩) ?_) | (refine kO 4 rfl ?_; first | refine rSti rfl rfl rfl rfl rfl rfl (by first | omega | decide | exact Nat.le_of_ble_eq_true rfl | (dsimp only [SC.len]; omega) | (simp; done) | (simp; omega) | omega) ?_ | refine rG (fun _ z => z) ?_) | (refine kO 5 rfl ?_; first | refine rIdN rfl rfl rfl rfl rfl rfl rfl (by first | omega | decide | exact Nat.le_of_ble_eq_true rfl | (dsimp only [SC.len]; omega) | (simp; done) | (simp; omega) | omega) ?_ | refine rIdx rfl rfl rfl rfl rfl rfl rfl (by first | omega | decide | exact Nat.le_of_ble_eq_true rfl | (dsimp only [SC.len]; omega) | (simp; done) | (simp; omega) | omega) ?_ | refine rIdoN rfl rfl rfl rfl rfl rfl rfl rfl (by first | omega | decide | exact Nat.le_of_ble_eq_true rfl | (dsimp only [SC.len]; omega) | (simp; done) | (simp; omega) | omega) ?_ | refine rIdo rfl rfl rfl rfl rfl rfl rfl rfl (by first | omega | decide | exact Nat.le_of_ble_eq_true rfl | (dsimp only [SC.len]; omega) | (simp; done) | (simp; omega) | omega) ?_ | refine rIdvN rfl rfl rfl rfl rfl rfl (by first | assumption | rfl) rfl ?_) | (refine kO 6 rfl ?_; first | refine rLen rfl rfl rfl rfl rfl rfl ?_ | refine rLenv rfl rfl rfl rfl rfl rfl ?_ | refine rLeno rfl rfl rfl rfl rfl rfl rfl ?_ | refine rLenov rfl rfl rfl rfl rfl rfl rfl ?_ | refine rG (fun _ z => z) ?_) | (refine kO 8 rfl ?_; first | refine rSlH rfl rfl rfl rfl rfl rfl rfl (by omega) ?_ | refine rSlL rfl rfl rfl rfl rfl rfl rfl (by omega) ?_ | refine rG (fun _ z => z) ?_) | refine oN ?_ | refine aS ?_ | refine aR ?_ | refine aK ?_ | refine aX ?_ | refine aB ?_ | refine aT ?_ | refine aC rfl ?_ | refine bT ?_ | refine bF ?_ | refine bPt (by omega) ?_ | refine bPf (by omega) ?_ | refine aL ?_ | refine aE ?_ | refine oY rfl rfl rfl ?_ | refine oZ rfl rfl rfl ?_ | refine oO rfl rfl rfl ?_ | refine oIt rfl rfl rfl (by omega) ?_ | refine oIf rfl rfl rfl (by omega) ?_ | refine oUt rfl rfl rfl (by omega) ?_ | refine oUf rfl rfl rfl (by omega) ?_ | refine dI (by kernel_rfl) ?_ | refine rG (fun _ z => ⟨(by (first | omega | decide | rfl | exact lnS (by omega) | exact lnN (by decide) | exact lnN (by omega) | exact lnC (by omega) | exact lvS (by omega) | exact lvN (by decide) | exact lvC (by omega) | exact uvS rfl | exact uvN rfl | ((try unfold SC.len); (try unfold SC.uni); (try unfold LIM); (try simp); (try omega); done) | omega)), z⟩) ?_ | refine rG (fun _ z => ⟨(by (first | omega | decide | rfl | exact lnS (by omega) | exact lnN (by decide) | exact lnN (by omega) | exact lnC (by omega) | exact lvS (by omega) | exact lvN (by decide) | exact lvC (by omega) | exact uvS rfl | exact uvN rfl | ((try unfold SC.len); (try unfold SC.uni); (try unfold LIM); (try simp); (try omega); done) | omega)), (by (first | omega | decide | rfl | exact lnS (by omega) | exact lnN (by decide) | exact lnN (by omega) | exact lnC (by omega) | exact lvS (by omega) | exact lvN (by decide) | exact lvC (by omega) | exact uvS rfl | exact uvN rfl | ((try unfold SC.len); (try unfold SC.uni); (try unfold LIM); (try simp); (try omega); done) | omega)), z⟩) ?_); (try conv => whnf))
  refine loop_ind (ι := Nat) (fun i => i ≤ ts.length) (fun i => ts.length - i) (fun i => ⟨[(0, some (.val (false, [.st (.view (tsV ts))]))), (3, pO 0), (4, vI i)], [(0, some (.row true 1 (.view (tsV (ts.take i)))))], 1⟩) 0 (Sub.trans (nil_sub 3 1 (.view []) (by decide) rfl rfl rfl) (canon_auto (by kernel_rfl))) (Nat.zero_le _) ?_
  intro i hi
  have hl2 : (tsV (ts.take i)).length = i := by simp [hi]
  by_cases hlt : i < ts.length
  · have hg := tap_get hlt
    have c1 := copyInts_sat (ts.getD i []) (Nat.le_trans (ht _ (tap_mem hlt)) (by decide))
    have e := tsV_take hlt
    generalize hA : tsV (ts.take i) = A at *
    generalize hB : ts.getD i [] = B at *
    repeat ((first | refine oP rfl ?_ | refine rP rfl (fun _ z => z) ?_ | (refine kO 1 rfl ?_; first | refine rAdd rfl rfl rfl (by omega) ?_ | refine rSub rfl rfl rfl (by omega) ?_ | refine rMul rfl rfl rfl (by omega) ?_ | refine rQuo rfl rfl rfl (by omega) ?_ | refine rRem rfl rfl rfl (by omega) ?_ | refine rQuo' rfl rfl rfl (by omega) ?_ | refine rRem' rfl rfl rfl (by omega) ?_ | refine rG (fun _ z => z) ?_) | (refine kO 2 rfl ?_; first | refine rNeg rfl rfl (by omega) ?_ | refine rG (fun _ z => z) ?_) | (refine kO 3 rfl ?_; first | refine rLdr rfl rfl rfl rfl rfl ?_ | refine rLdb rfl rfl rfl rfl rfl rfl rfl ?_ | refine rLdi rfl rfl rfl rfl rfl rfl (by first | omega | decide | exact Nat.le_of_ble_eq_true rfl | (dsimp only [SC.len]; omega) | (simp; done) | (simp; omega) | omega) ?_ | refine rG (fun _ z => z) ?_ | refine rG (fun _ z => ⟨_, rfl, z⟩) ?_ | refine rG (fun _ z => ⟨_, (by assumption), z⟩) ?_) | (refine kO 4 rfl ?_; first | refine rSti rfl rfl rfl rfl rfl rfl (by first | omega | decide | exact Nat.le_of_ble_eq_true rfl | (dsimp only [SC.len]; omega) | (simp; done) | (simp; omega) | omega) ?_ | refine rG (fun _ z => z) ?_) | (refine kO 5 rfl ?_; first | refine rIdN rfl rfl rfl rfl rfl rfl rfl (by first | omega | decide | exact Nat.le_of_ble_eq_true rfl | (dsimp only [SC.len]; omega) | (simp; done) | (simp; omega) | omega) ?_ | refine rIdx rfl rfl rfl rfl rfl rfl rfl (by first | omega | decide | exact Nat.le_of_ble_eq_true rfl | (dsimp only [SC.len]; omega) | (simp; done) | (simp; omega) | omega) ?_ | refine rIdoN rfl rfl rfl rfl rfl rfl rfl rfl (by first | omega | decide | exact Nat.le_of_ble_eq_true rfl | (dsimp only [SC.len]; omega) | (simp; done) | (simp; omega) | omega) ?_ | refine rIdo rfl rfl rfl rfl rfl rfl rfl rfl (by first | omega | decide | exact Nat.le_of_ble_eq_true rfl | (dsimp only [SC.len]; omega) | (simp; done) | (simp; omega) | omega) ?_ | refine rIdvN rfl rfl rfl rfl rfl rfl (by first | assumption | rfl) rfl ?_) | (refine kO 7 rfl ?_; first | refine rG (fun _ z => ⟨_, c1, z⟩) ?_) | (refine kO 6 rfl ?_; first | refine rLen rfl rfl rfl rfl rfl rfl ?_ | refine rLenv rfl rfl rfl rfl rfl rfl ?_ | refine rLeno rfl rfl rfl rfl rfl rfl rfl ?_ | refine rLenov rfl rfl rfl rfl rfl rfl rfl ?_ | refine rG (fun _ z => z) ?_) | (refine kO 8 rfl ?_; first | refine rSlH rfl rfl rfl rfl rfl rfl rfl (by omega) ?_ | refine rSlL rfl rfl rfl rfl rfl rfl rfl (by omega) ?_ | refine rG (fun _ z => z) ?_) | refine oN ?_ | refine aS ?_ | refine aR ?_ | refine aK ?_ | refine aX ?_ | refine aB ?_ | refine aT ?_ | refine aC rfl ?_ | refine bT ?_ | refine bF ?_ | refine bPt (by omega) ?_ | refine bPf (by omega) ?_ | refine aL ?_ | refine aE ?_ | refine oY rfl rfl rfl ?_ | refine oZ rfl rfl rfl ?_ | refine oO rfl rfl rfl ?_ | refine oIt rfl rfl rfl (by omega) ?_ | refine oIf rfl rfl rfl (by omega) ?_ | refine oUt rfl rfl rfl (by omega) ?_ | refine oUf rfl rfl rfl (by omega) ?_ | refine dI (by kernel_rfl) ?_ | refine rG (fun _ z => ⟨(by (first | omega | decide | rfl | exact lnS (by omega) | exact lnN (by decide) | exact lnN (by omega) | exact lnC (by omega) | exact lvS (by omega) | exact lvN (by decide) | exact lvC (by omega) | exact uvS rfl | exact uvN rfl | ((try unfold SC.len); (try unfold SC.uni); (try unfold LIM); (try simp); (try omega); done) | omega)), z⟩) ?_ | refine rG (fun _ z => ⟨(by (first | omega | decide | rfl | exact lnS (by omega) | exact lnN (by decide) | exact lnN (by omega) | exact lnC (by omega) | exact lvS (by omega) | exact lvN (by decide) | exact lvC (by omega) | exact uvS rfl | exact uvN rfl | ((try unfold SC.len); (try unfold SC.uni); (try unfold LIM); (try simp); (try omega); done) | omega)), (by (first | omega | decide | rfl | exact lnS (by omega) | exact lnN (by decide) | exact lnN (by omega) | exact lnC (by omega) | exact lvS (by omega) | exact lvN (by decide) | exact lvC (by omega) | exact uvS rfl | exact uvN rfl | ((try unfold SC.len); (try unfold SC.uni); (try unfold LIM); (try simp); (try omega); done) | omega)), z⟩) ?_); (try conv => whnf))
    exact ⟨i + 1, hlt, by omega, canon_auto (by rw [e]; kernel_rfl)⟩
  · obtain rfl : i = ts.length := by omega
    rw [List.take_length]
    repeat ((first | refine oP rfl ?_ | refine rP rfl (fun _ z => z) ?_ | (refine kO 1 rfl ?_; first | refine rAdd rfl rfl rfl (by omega) ?_ | refine rSub rfl rfl rfl (by omega) ?_ | refine rMul rfl rfl rfl (by omega) ?_ | refine rQuo rfl rfl rfl (by omega) ?_ | refine rRem rfl rfl rfl (by omega) ?_ | refine rQuo' rfl rfl rfl (by omega) ?_ | refine rRem' rfl rfl rfl (by omega) ?_ | refine rG (fun _ z => z) ?_) | (refine kO 2 rfl ?_; first | refine rNeg rfl rfl (by omega) ?_ | refine rG (fun _ z => z) ?_) | (refine kO 3 rfl ?_; first | refine rLdr rfl rfl rfl rfl rfl ?_ | refine rLdb rfl rfl rfl rfl rfl rfl rfl ?_ | refine rLdi rfl rfl rfl rfl rfl rfl (by first | omega | decide | exact Nat.le_of_ble_eq_true rfl | (dsimp only [SC.len]; omega) | (simp; done) | (simp; omega) | omega) ?_ | refine rG (fun _ z => z) ?_ | refine rG (fun _ z => ⟨_, rfl, z⟩) ?_ | refine rG (fun _ z => ⟨_, (by assumption), z⟩) ?_) | (refine kO 4 rfl ?_; first | refine rSti rfl rfl rfl rfl rfl rfl (by first | omega | decide | exact Nat.le_of_ble_eq_true rfl | (dsimp only [SC.len]; omega) | (simp; done) | (simp; omega) | omega) ?_ | refine rG (fun _ z => z) ?_) | (refine kO 5 rfl ?_; first | refine rIdN rfl rfl rfl rfl rfl rfl rfl (by first | omega | decide | exact Nat.le_of_ble_eq_true rfl | (dsimp only [SC.len]; omega) | (simp; done) | (simp; omega) | omega) ?_ | refine rIdx rfl rfl rfl rfl rfl rfl rfl (by first | omega | decide | exact Nat.le_of_ble_eq_true rfl | (dsimp only [SC.len]; omega) | (simp; done) | (simp; omega) | omega) ?_ | refine rIdoN rfl rfl rfl rfl rfl rfl rfl rfl (by first | omega | decide | exact Nat.le_of_ble_eq_true rfl | (dsimp only [SC.len]; omega) | (simp; done) | (simp; omega) | omega) ?_ | refine rIdo rfl rfl rfl rfl rfl rfl rfl rfl (by first | omega | decide | exact Nat.le_of_ble_eq_true rfl | (dsimp only [SC.len]; omega) | (simp; done) | (simp; omega) | omega) ?_ | refine rIdvN rfl rfl rfl rfl rfl rfl (by first | assumption | rfl) rfl ?_) | (refine kO 6 rfl ?_; first | refine rLen rfl rfl rfl rfl rfl rfl ?_ | refine rLenv rfl rfl rfl rfl rfl rfl ?_ | refine rLeno rfl rfl rfl rfl rfl rfl rfl ?_ | refine rLenov rfl rfl rfl rfl rfl rfl rfl ?_ | refine rG (fun _ z => z) ?_) | (refine kO 8 rfl ?_; first | refine rSlH rfl rfl rfl rfl rfl rfl rfl (by omega) ?_ | refine rSlL rfl rfl rfl rfl rfl rfl rfl (by omega) ?_ | refine rG (fun _ z => z) ?_) | refine oN ?_ | refine aS ?_ | refine aR ?_ | refine aK ?_ | refine aX ?_ | refine aB ?_ | refine aT ?_ | refine aC rfl ?_ | refine bT ?_ | refine bF ?_ | refine bPt (by omega) ?_ | refine bPf (by omega) ?_ | refine aL ?_ | refine aE ?_ | refine oY rfl rfl rfl ?_ | refine oZ rfl rfl rfl ?_ | refine oO rfl rfl rfl ?_ | refine oIt rfl rfl rfl (by omega) ?_ | refine oIf rfl rfl rfl (by omega) ?_ | refine oUt rfl rfl rfl (by omega) ?_ | refine oUf rfl rfl rfl (by omega) ?_ | refine dI (by kernel_rfl) ?_ | refine rG (fun _ z => ⟨(by (first | omega | decide | rfl | exact lnS (by omega) | exact lnN (by decide) | exact lnN (by omega) | exact lnC (by omega) | exact lvS (by omega) | exact lvN (by decide) | exact lvC (by omega) | exact uvS rfl | exact uvN rfl | ((try unfold SC.len); (try unfold SC.uni); (try unfold LIM); (try simp); (try omega); done) | omega)), z⟩) ?_ | refine rG (fun _ z => ⟨(by (first | omega | decide | rfl | exact lnS (by omega) | exact lnN (by decide) | exact lnN (by omega) | exact lnC (by omega) | exact lvS (by omega) | exact lvN (by decide) | exact lvC (by omega) | exact uvS rfl | exact uvN rfl | ((try unfold SC.len); (try unfold SC.uni); (try unfold LIM); (try simp); (try omega); done) | omega)), (by (first | omega | decide | rfl | exact lnS (by omega) | exact lnN (by decide) | exact lnN (by omega) | exact lnC (by omega) | exact lvS (by omega) | exact lvN (by decide) | exact lvC (by omega) | exact uvS rfl | exact uvN rfl | ((try unfold SC.len); (try unfold SC.uni); (try unfold LIM); (try simp); (try omega); done) | omega)), z⟩) ?_); (try conv => whnf))
    (first | done | rfl)
section
variable (a : List Int) (ts : List (List Int)) (lo hi : Int) (fl : List Fa) (l0 l1 l2 l3 : Int)
theorem copyDesign_sat (ha : a.length ≤ 1000000) (hT : ts.length ≤ 1000000) (ht : ∀ t ∈ ts, t.length ≤ 1000000) (hF : fl.length ≤ 1000000) : Sat cx.P cx.gl 8 [Ds a ts lo hi fl l0 l1 l2 l3] (.one (Ds a ts lo hi fl l0 l1 l2 l3)) := by
  have c1 := copyInts_sat a (by omega)
  have c2 := copyLists_sat ts hT ht
  have hl : (fl.map fcs).length = fl.length := List.length_map _
  have hu : (SC.view (fl.map fcs)).uni 6 := by
    intro e he
    obtain ⟨f, _, rfl⟩ := List.mem_map.1 he
    rfl
  refine Sat_of_awp (fn := f8) cx_ok (by kernel_rfl) (by kernel_rfl) rfl (by kernel_rfl) (Nat.le_of_ble_eq_true rfl) ?_
  repeat ((first | refine oP rfl ?_ | refine rP rfl (fun _ z => z) ?_ | (refine kO 1 rfl ?_; first | refine rAdd rfl rfl rfl (by omega) ?_ | refine rSub rfl rfl rfl (by omega) ?_ | refine rMul rfl rfl rfl (by omega) ?_ | refine rQuo rfl rfl rfl (by omega) ?_ | refine rRem rfl rfl rfl (by omega) ?_ | refine rQuo' rfl rfl rfl (by omega) ?_ | refine rRem' rfl rfl rfl (by omega) ?_ | refine rG (fun _ z => z) ?_) | (refine kO 2 rfl ?_; first | refine rNeg rfl rfl (by omega) ?_ | refine rG (fun _ z => z) ?_) | (refine kO 3 rfl ?_; first | refine rLdr rfl rfl rfl rfl rfl ?_ | refine rLdb rfl rfl rfl rfl rfl rfl rfl ?_ | refine rLdi rfl rfl rfl rfl rfl rfl (by first | omega | decide | exact Nat.le_of_ble_eq_true rfl | (dsimp only [SC.len]; omega) | (simp; done) | (simp; omega) | omega) ?_ | refine rG (fun _ z => z) ?_ | refine rG (fun _ z => ⟨_, rfl, z⟩) ?_ | refine rG (fun _ z => ⟨_, (by assumption), z⟩) ?_) | (refine kO 4 rfl ?_; first | refine rSti rfl rfl rfl rfl rfl rfl (by first | omega | decide | exact Nat.le_of_ble_eq_true rfl | (dsimp only [SC.len]; omega) | (simp; done) | (simp; omega) | omega) ?_ | refine rG (fun _ z => z) ?_) | (refine kO 5 rfl ?_; first | refine rIdN rfl rfl rfl rfl rfl rfl rfl (by first | omega | decide | exact Nat.le_of_ble_eq_true rfl | (dsimp only [SC.len]; omega) | (simp; done) | (simp; omega) | omega) ?_ | refine rIdx rfl rfl rfl rfl rfl rfl rfl (by first | omega | decide | exact Nat.le_of_ble_eq_true rfl | (dsimp only [SC.len]; omega) | (simp; done) | (simp; omega) | omega) ?_ | refine rIdoN rfl rfl rfl rfl rfl rfl rfl rfl (by first | omega | decide | exact Nat.le_of_ble_eq_true rfl | (dsimp only [SC.len]; omega) | (simp; done) | (simp; omega) | omega) ?_ | refine rIdo rfl rfl rfl rfl rfl rfl rfl rfl (by first | omega | decide | exact Nat.le_of_ble_eq_true rfl | (dsimp only [SC.len]; omega) | (simp; done) | (simp; omega) | omega) ?_ | refine rIdvN rfl rfl rfl rfl rfl rfl (by first | assumption | rfl) rfl ?_) | (refine kO 7 rfl ?_; first | refine rG (fun _ z => ⟨_, c1, z⟩) ?_ | refine rG (fun _ z => ⟨_, c2, z⟩) ?_) | (refine kO 6 rfl ?_; first | refine rLen rfl rfl rfl rfl rfl rfl ?_ | refine rLenv rfl rfl rfl rfl rfl rfl ?_ | refine rLeno rfl rfl rfl rfl rfl rfl rfl ?_ | refine rLenov rfl rfl rfl rfl rfl rfl rfl ?_ | refine rG (fun _ z => z) ?_) | (refine kO 8 rfl ?_; first | refine rSlH rfl rfl rfl rfl rfl rfl rfl (by omega) ?_ | refine rSlL rfl rfl rfl rfl rfl rfl rfl (by omega) ?_ | refine rG (fun _ z => z) ?_) | refine oN ?_ | refine aS ?_ | refine aR ?_ | refine aK ?_ | refine aX ?_ | refine aB ?_ | refine aT ?_ | refine aC rfl ?_ | refine bT ?_ | refine bF ?_ | refine bPt (by omega) ?_ | refine bPf (by omega) ?_ | refine aL ?_ | refine aE ?_ | refine oY rfl rfl rfl ?_ | refine oZ rfl rfl rfl ?_ | refine oO rfl rfl rfl ?_ | refine oIt rfl rfl rfl (by omega) ?_ | refine oIf rfl rfl rfl (by omega) ?_ | refine oUt rfl rfl rfl (by omega) ?_ | refine oUf rfl rfl rfl (by omega) ?_ | refine dI (by kernel_rfl) ?_ | refine rG (fun _ z => ⟨(by (first | omega | decide | rfl | exact lnS (by omega) | exact lnN (by decide) | exact lnN (by omega) | exact lnC (by omega) | exact lvS (by omega) | exact lvN (by decide) | exact lvC (by omega) | exact uvS rfl | exact uvN rfl | ((try unfold SC.len); (try unfold SC.uni); (try unfold LIM); (try simp); (try omega); done) | omega)), z⟩) ?_ | refine rG (fun _ z => ⟨(by (first | omega | decide | rfl | exact lnS (by omega) | exact lnN (by decide) | exact lnN (by omega) | exact lnC (by omega) | exact lvS (by omega) | exact lvN (by decide) | exact lvC (by omega) | exact uvS rfl | exact uvN rfl | ((try unfold SC.len); (try unfold SC.uni); (try unfold LIM); (try simp); (try omega); done) | omega)), (by (first | omega | decide | rfl | exact lnS (by omega) | exact lnN (by decide) | exact lnN (by omega) | exact lnC (by omega) | exact lvS (by omega) | exact lvN (by decide) | exact lvC (by omega) | exact uvS rfl | exact uvN rfl | ((try unfold SC.len); (try unfold SC.uni); (try unfold LIM); (try simp); (try omega); done) | omega)), z⟩) ?_); (try conv => whnf))
  (first | done | rfl)
end
end Go.Proofs.Tryz

namespace Go.Proofs.Tryz
open Go.Fw Go.IntWalk Go.Plain
set_option maxRecDepth 100000
set_option maxHeartbeats 8000000
theorem allIn4 {l0 l1 l2 l3 x y : Int} : AllIn [l0, l1, l2, l3] x y ↔ (x ≤ l0 ∧ l0 ≤ y) ∧ (x ≤ l1 ∧ l1 ≤ y) ∧ (x ≤ l2 ∧ l2 ≤ y) ∧ (x ≤ l3 ∧ l3 ≤ y) := by
  unfold AllIn; simp
theorem allIn2 {l0 l1 x y : Int} : AllIn [l0, l1] x y ↔ (x ≤ l0 ∧ l0 ≤ y) ∧ (x ≤ l1 ∧ l1 ≤ y) := by
  unfold AllIn; simp
section
variable (a : List Int) (ts : List (List Int)) (lo hi : Int) (fl : List Fa) (l0 l1 l2 l3 : Int)
theorem refCaseErr_sat (c : Ca) (hT : ts.length ≤ 1000000) (hF : fl.length ≤ 1000000) : Sat cx.P cx.gl 14 [Ds a ts lo hi fl l0 l1 l2 l3, CaX c] (.one (I (cErr ts.length lo hi fl.length c))) := by
  obtain ⟨k, t, s, f⟩ := c
  have hml : (ts.map fun t => [SC.ints t]).length = ts.length := List.length_map _
  have hmf : (fl.map fcs).length = fl.length := List.length_map _
  show Sat _ _ _ [Ds a ts lo hi fl l0 l1 l2 l3, (true, [J k, J t, J s, J f])] _
  refine Sat_of_awp (fn := f14) cx_ok (by kernel_rfl) (by kernel_rfl) rfl (by kernel_rfl) (Nat.le_of_ble_eq_true rfl) ?_
  repeat' ((first | refine oP rfl ?_ | refine rP rfl (fun _ z => z) ?_ | (refine kO 1 rfl ?_; refine rSub rfl rfl rfl (by omega) ?_) | (refine kO 2 rfl ?_; refine rG (fun _ z => z) ?_) | (refine kO 3 rfl ?_; refine rLdb rfl rfl rfl rfl rfl rfl rfl ?_) | (refine kO 7 rfl ?_; refine rG (fun _ z => ⟨_, within_p _ _ _, z⟩) ?_) | (refine kO 6 rfl ?_; refine rLenv rfl rfl rfl rfl rfl rfl ?_) | refine oN ?_ | refine aS ?_ | refine aR ?_ | refine aK ?_ | refine aT ?_ | refine aC rfl ?_ | refine bT ?_ | refine oY rfl rfl rfl ?_ | refine oZ rfl rfl rfl ?_ | refine brp (fun h => ?_) (fun h => ?_) | refine opsA_unlessp rfl rfl rfl (fun h => ?_) (fun h => ?_)) <;> (try conv => whnf))
  all_goals
    refine res_i ?_
    unfold cErr
    (repeat' split) <;> first | rfl | omega | contradiction | (exfalso; simp at *; omega)
theorem fewDesign_sat (hT : ts.length ≤ maxLen) (hF : fl.length ≤ maxLen) (ha : a.length ≤ maxLen) :
    Sat cx.P cx.gl 6 [Ds a ts lo hi fl l0 l1 l2 l3] (.one (Bo (decide ((a.length ≤ 17 ∧ ts.length ≤ 6 ∧ fl.length ≤ 6) ∧ ∀ t ∈ ts, t.length ≤ 17)))) := by
  have hml : (ts.map fun t => [SC.ints t]).length = ts.length := List.length_map _
  have hmf : (fl.map fcs).length = fl.length := List.length_map _
  by_cases h1 : a.length ≤ 17
  · by_cases h2 : ts.length ≤ 6
    · by_cases h3 : fl.length ≤ 6
      · refine Sat_of_awp (fn := f6) cx_ok (by kernel_rfl) (by kernel_rfl) rfl (by kernel_rfl) (Nat.le_of_ble_eq_true rfl) ?_
        repeat ((first | refine oP rfl ?_ | refine rP rfl (fun _ z => z) ?_ | (refine kO 1 rfl ?_; refine rG (fun _ z => z) ?_) | (refine kO 3 rfl ?_; refine rLdb rfl rfl rfl rfl rfl rfl rfl ?_) | (refine kO 6 rfl ?_; first | refine rLen rfl rfl rfl rfl rfl rfl ?_ | refine rLenv rfl rfl rfl rfl rfl rfl ?_) | refine oN ?_ | refine aS ?_ | refine aR ?_ | refine aK ?_ | refine aB ?_ | refine aC rfl ?_ | refine bPf (by omega) ?_ | refine aL ?_ | refine oY rfl rfl rfl ?_ | refine oUf rfl rfl rfl (by omega) ?_); (try conv => whnf))
        refine loop_ind (ι := Nat) (fun i => i ≤ ts.length ∧ ∀ t ∈ ts.take i, t.length ≤ 17) (fun i => ts.length - i) (fun i => ⟨[(1, pP 0), (3, vI i)], [(0, bDs a ts lo hi fl l0 l1 l2 l3 29)], 1⟩) 0 (canon_auto (by kernel_rfl)) ⟨Nat.zero_le _, by simp⟩ ?_
        rintro i ⟨hii, hall⟩
        by_cases hlt : i < ts.length
        · have hg := tap_get hlt
          have hm := tap_mem hlt
          have hall' : (ts.getD i []).length ≤ 17 → ∀ t ∈ ts.take (i + 1), t.length ≤ 17 := by
            intro h t ht
            rw [take_snoc (d := []) hlt] at ht
            rcases List.mem_append.1 ht with ht | ht
            · exact hall t ht
            · simp at ht; rw [ht]; simpa [List.getD_eq_getElem?_getD] using h
          generalize ts.getD i [] = B at *
          repeat ((first | refine oP rfl ?_ | refine rP rfl (fun _ z => z) ?_ | (refine kO 1 rfl ?_; refine rG (fun _ z => z) ?_) | (refine kO 3 rfl ?_; first | refine rLdr rfl rfl rfl rfl rfl ?_ | refine rLdb rfl rfl rfl rfl rfl rfl rfl ?_) | (refine kO 5 rfl ?_; refine rIdvN rfl rfl rfl rfl rfl rfl (by assumption) rfl ?_) | (refine kO 6 rfl ?_; first | refine rLen rfl rfl rfl rfl rfl rfl ?_ | refine rLenv rfl rfl rfl rfl rfl rfl ?_) | refine oN ?_ | refine aS ?_ | refine aR ?_ | refine aK ?_ | refine aB ?_ | refine aC rfl ?_ | refine bPt (by omega) ?_); (try conv => whnf))
          ((refine brp (fun h => ?_) (fun h => ?_)) <;> (try conv => whnf))
          · repeat ((first | refine oP rfl ?_ | refine rP rfl (fun _ z => z) ?_ | refine oN ?_ | refine aS ?_ | refine aR ?_ | refine aT ?_); (try conv => whnf))
            refine res_bo (decide_eq_false fun hh => ?_).symm
            have := hh.2 B hm
            omega
          · repeat ((first | refine oP rfl ?_ | refine rP rfl (fun _ z => z) ?_ | (refine kO 1 rfl ?_; refine rAdd rfl rfl rfl (by omega) ?_) | refine oN ?_ | refine aR ?_ | refine aK ?_); (try conv => whnf))
            exact ⟨i + 1, ⟨hlt, hall' (by omega)⟩, by omega, canon_auto (by kernel_rfl)⟩
        · obtain rfl : i = ts.length := by omega
          repeat ((first | refine oP rfl ?_ | refine rP rfl (fun _ z => z) ?_ | (refine kO 1 rfl ?_; refine rG (fun _ z => z) ?_) | (refine kO 3 rfl ?_; refine rLdb rfl rfl rfl rfl rfl rfl rfl ?_) | (refine kO 6 rfl ?_; refine rLenv rfl rfl rfl rfl rfl rfl ?_) | refine oN ?_ | refine aS ?_ | refine aR ?_ | refine aX ?_ | refine aT ?_ | refine aC rfl ?_ | refine bPf (by omega) ?_); (try conv => whnf))
          refine res_bo (decide_eq_true ⟨⟨h1, h2, h3⟩, by rwa [List.take_length] at hall⟩).symm
      · refine Sat_of_awp (fn := f6) cx_ok (by kernel_rfl) (by kernel_rfl) rfl (by kernel_rfl) (Nat.le_of_ble_eq_true rfl) ?_
        repeat ((first | refine oP rfl ?_ | refine rP rfl (fun _ z => z) ?_ | (refine kO 1 rfl ?_; refine rG (fun _ z => z) ?_) | (refine kO 3 rfl ?_; refine rLdb rfl rfl rfl rfl rfl rfl rfl ?_) | (refine kO 6 rfl ?_; first | refine rLen rfl rfl rfl rfl rfl rfl ?_ | refine rLenv rfl rfl rfl rfl rfl rfl ?_) | refine oN ?_ | refine aS ?_ | refine aR ?_ | refine aT ?_ | refine aC rfl ?_ | refine bPt (by omega) ?_ | refine oY rfl rfl rfl ?_ | refine oUf rfl rfl rfl (by omega) ?_); (try conv => whnf))
        exact res_bo (decide_eq_false fun hh => h3 hh.1.2.2).symm
    · refine Sat_of_awp (fn := f6) cx_ok (by kernel_rfl) (by kernel_rfl) rfl (by kernel_rfl) (Nat.le_of_ble_eq_true rfl) ?_
      repeat ((first | refine oP rfl ?_ | refine rP rfl (fun _ z => z) ?_ | (refine kO 1 rfl ?_; refine rG (fun _ z => z) ?_) | (refine kO 3 rfl ?_; refine rLdb rfl rfl rfl rfl rfl rfl rfl ?_) | (refine kO 6 rfl ?_; first | refine rLen rfl rfl rfl rfl rfl rfl ?_ | refine rLenv rfl rfl rfl rfl rfl rfl ?_) | refine oN ?_ | refine aS ?_ | refine aR ?_ | refine aT ?_ | refine aC rfl ?_ | refine bT ?_ | refine oY rfl rfl rfl ?_ | refine oZ rfl rfl rfl ?_ | refine oUt rfl rfl rfl (by omega) ?_ | refine oUf rfl rfl rfl (by omega) ?_); (try conv => whnf))
      exact res_bo (decide_eq_false fun hh => h2 hh.1.2.1).symm
  · refine Sat_of_awp (fn := f6) cx_ok (by kernel_rfl) (by kernel_rfl) rfl (by kernel_rfl) (Nat.le_of_ble_eq_true rfl) ?_
    repeat ((first | refine oP rfl ?_ | refine rP rfl (fun _ z => z) ?_ | (refine kO 1 rfl ?_; refine rG (fun _ z => z) ?_) | (refine kO 3 rfl ?_; refine rLdb rfl rfl rfl rfl rfl rfl rfl ?_) | (refine kO 6 rfl ?_; refine rLen rfl rfl rfl rfl rfl rfl ?_) | refine oN ?_ | refine aS ?_ | refine aR ?_ | refine aT ?_ | refine aC rfl ?_ | refine bT ?_ | refine oZ rfl rfl rfl ?_ | refine oUt rfl rfl rfl (by omega) ?_); (try conv => whnf))
    exact res_bo (decide_eq_false fun hh => h1 hh.1.1).symm
theorem refDesignErr_sat (ha : a.length ≤ maxLen) (ht : ∀ t ∈ ts, t.length ≤ maxLen) (hT : ts.length ≤ maxLen) (hF : fl.length ≤ maxLen) (hf : ∀ f ∈ fl, inI f.2.2.2.2.1 ∧ inI f.2.2.2.2.2) :
    Sat cx.P cx.gl 10 [Ds a ts lo hi fl l0 l1 l2 l3] (.one (I (dErr a ts lo hi fl l0 l1 l2 l3))) := by
  have hml : (ts.map fun t => [SC.ints t]).length = ts.length := List.length_map _
  have hmf : (fl.map fcs).length = fl.length := List.length_map _
  have hF' : fl.length ≤ 9223372036854775807 := by have := hF; unfold maxLen at this; omega
  have loopT : ∀ i, i < ts.length → fs ((ts.drop i).map fun t => windowErr a t) = if windowErr a (ts.getD i []) ≠ 0 then windowErr a (ts.getD i []) else fs ((ts.drop (i + 1)).map fun t => windowErr a t) := fun i h => fs_dropd h
  have loopF : ∀ i, i < fl.length → fs ((fl.drop i).map fErr) = if fErr (fl.getD i (0, 0, 0, 0, 0, 0)) ≠ 0 then fErr (fl.getD i (0, 0, 0, 0, 0, 0)) else fs ((fl.drop (i + 1)).map fErr) := fun i h => fs_dropd h
  have dE1 : dErr1 a ts ≠ 0 → dErr a ts lo hi fl l0 l1 l2 l3 = dErr1 a ts := fun h => by unfold dErr; rw [if_pos h]
  have dE2 : ¬ dErr1 a ts ≠ 0 → tErr a ts ≠ 0 → dErr a ts lo hi fl l0 l1 l2 l3 = tErr a ts := fun h h' => by unfold dErr; rw [if_neg h, if_pos h']
  have dE3 : ¬ dErr1 a ts ≠ 0 → ¬ tErr a ts ≠ 0 → dErr2 lo hi fl ≠ 0 → dErr a ts lo hi fl l0 l1 l2 l3 = dErr2 lo hi fl := fun h h' h2 => by unfold dErr; rw [if_neg h, if_neg h', if_pos h2]
  have dE4 : ¬ dErr1 a ts ≠ 0 → ¬ tErr a ts ≠ 0 → ¬ dErr2 lo hi fl ≠ 0 → aErr fl ≠ 0 → dErr a ts lo hi fl l0 l1 l2 l3 = aErr fl := fun h h' h2 h3 => by unfold dErr; rw [if_neg h, if_neg h', if_neg h2, if_pos h3]
  have dE5 : ¬ dErr1 a ts ≠ 0 → ¬ tErr a ts ≠ 0 → ¬ dErr2 lo hi fl ≠ 0 → ¬ aErr fl ≠ 0 → dErr a ts lo hi fl l0 l1 l2 l3 = if AllIn [l0, l1, l2, l3] 1 100000000 then 0 else 2 := fun h h' h2 h3 => by unfold dErr; rw [if_neg h, if_neg h', if_neg h2, if_neg h3]
  by_cases q1 : 0 < ts.length
  case neg =>
    have e : dErr1 a ts = 10 := by unfold dErr1; rw [if_neg q1]
    rw [dE1 (by rw [e]; decide), e]
    refine Sat_of_awp (fn := f10) cx_ok (by kernel_rfl) (by kernel_rfl) rfl (by kernel_rfl) (Nat.le_of_ble_eq_true rfl) ?_
    repeat ((first | refine oP rfl ?_ | refine rP rfl (fun _ z => z) ?_ | (refine kO 1 rfl ?_; refine rG (fun _ z => z) ?_) | (refine kO 3 rfl ?_; refine rLdb rfl rfl rfl rfl rfl rfl rfl ?_) | (refine kO 6 rfl ?_; refine rLenv rfl rfl rfl rfl rfl rfl ?_) | refine oN ?_ | refine aS ?_ | refine aR ?_ | refine aT ?_ | refine aC rfl ?_ | refine bPt (by omega) ?_); (try conv => whnf))
    (done)
  by_cases q2 : ts.length ≤ 4 ∧ a.length ≤ 12
  case neg =>
    have e : dErr1 a ts = 8 := by unfold dErr1; rw [if_pos q1, if_neg q2]
    rw [dE1 (by rw [e]; decide), e]
    by_cases q3 : ts.length ≤ 4
    · have q4 : ¬ a.length ≤ 12 := fun h => q2 ⟨q3, h⟩
      refine Sat_of_awp (fn := f10) cx_ok (by kernel_rfl) (by kernel_rfl) rfl (by kernel_rfl) (Nat.le_of_ble_eq_true rfl) ?_
      repeat ((first | refine oP rfl ?_ | refine rP rfl (fun _ z => z) ?_ | (refine kO 1 rfl ?_; refine rG (fun _ z => z) ?_) | (refine kO 3 rfl ?_; refine rLdb rfl rfl rfl rfl rfl rfl rfl ?_) | (refine kO 6 rfl ?_; first | refine rLen rfl rfl rfl rfl rfl rfl ?_ | refine rLenv rfl rfl rfl rfl rfl rfl ?_) | refine oN ?_ | refine aS ?_ | refine aR ?_ | refine aK ?_ | refine aT ?_ | refine aC rfl ?_ | refine bPt (by omega) ?_ | refine bPf (by omega) ?_ | refine oY rfl rfl rfl ?_ | refine oUf rfl rfl rfl (by omega) ?_); (try conv => whnf))
      (done)
    · refine Sat_of_awp (fn := f10) cx_ok (by kernel_rfl) (by kernel_rfl) rfl (by kernel_rfl) (Nat.le_of_ble_eq_true rfl) ?_
      repeat ((first | refine oP rfl ?_ | refine rP rfl (fun _ z => z) ?_ | (refine kO 1 rfl ?_; refine rG (fun _ z => z) ?_) | (refine kO 3 rfl ?_; refine rLdb rfl rfl rfl rfl rfl rfl rfl ?_) | (refine kO 6 rfl ?_; refine rLenv rfl rfl rfl rfl rfl rfl ?_) | refine oN ?_ | refine aS ?_ | refine aR ?_ | refine aK ?_ | refine aT ?_ | refine aC rfl ?_ | refine bT ?_ | refine bPf (by omega) ?_ | refine oZ rfl rfl rfl ?_ | refine oUt rfl rfl rfl (by omega) ?_); (try conv => whnf))
      (done)
  have d1 : ¬ dErr1 a ts ≠ 0 := by unfold dErr1; rw [if_pos q1, if_pos q2]; exact fun h => h rfl
  obtain ⟨q3, q4⟩ := q2
  refine Sat_of_awp (fn := f10) cx_ok (by kernel_rfl) (by kernel_rfl) rfl (by kernel_rfl) (Nat.le_of_ble_eq_true rfl) ?_
  repeat ((first | refine oP rfl ?_ | refine rP rfl (fun _ z => z) ?_ | (refine kO 1 rfl ?_; refine rG (fun _ z => z) ?_) | (refine kO 3 rfl ?_; refine rLdb rfl rfl rfl rfl rfl rfl rfl ?_) | (refine kO 6 rfl ?_; first | refine rLen rfl rfl rfl rfl rfl rfl ?_ | refine rLenv rfl rfl rfl rfl rfl rfl ?_) | refine oN ?_ | refine aS ?_ | refine aR ?_ | refine aK ?_ | refine aB ?_ | refine aC rfl ?_ | refine bPf (by omega) ?_ | refine aL ?_ | refine oY rfl rfl rfl ?_ | refine oUf rfl rfl rfl (by omega) ?_); (try conv => whnf))
  refine loop_ind (ι := Nat) (fun i => i ≤ ts.length ∧ tErr a ts = fs ((ts.drop i).map fun t => windowErr a t)) (fun i => ts.length - i) (fun i => ⟨[(1, pP 0), (3, vI i)], [(0, bDs a ts lo hi fl l0 l1 l2 l3 29)], 1⟩) 0 (canon_auto (by kernel_rfl)) ⟨Nat.zero_le _, rfl⟩ ?_
  rintro i ⟨hii, he⟩
  by_cases hlt : i < ts.length
  · have hget := tap_get hlt
    have g := windowErr_sat a (ts.getD i []) ha (ht _ (tap_mem hlt))
    rw [loopT i hlt] at he
    repeat ((first | refine oP rfl ?_ | refine rP rfl (fun _ z => z) ?_ | (refine kO 1 rfl ?_; refine rG (fun _ z => z) ?_) | (refine kO 3 rfl ?_; first | refine rLdr rfl rfl rfl rfl rfl ?_ | refine rLdb rfl rfl rfl rfl rfl rfl rfl ?_) | (refine kO 5 rfl ?_; refine rIdvN rfl rfl rfl rfl rfl rfl (by assumption) rfl ?_) | (refine kO 7 rfl ?_; refine rG (fun _ z => ⟨_, g, z⟩) ?_) | (refine kO 6 rfl ?_; refine rLenv rfl rfl rfl rfl rfl rfl ?_) | refine oN ?_ | refine aS ?_ | refine aR ?_ | refine aK ?_ | refine aB ?_ | refine aC rfl ?_ | refine bPt (by omega) ?_ | refine dI (by kernel_rfl) ?_); (try conv => whnf))
    ((refine brp (fun h => ?_) (fun h => ?_)) <;> (try conv => whnf))
    · rw [if_pos h] at he
      rw [dE2 d1 (by omega), he]
      repeat ((first | refine oP rfl ?_ | refine rP rfl (fun _ z => z) ?_ | refine oN ?_ | refine aS ?_ | refine aR ?_ | refine aT ?_); (try conv => whnf))
      (rfl)
    · rw [if_neg h] at he
      repeat ((first | refine oP rfl ?_ | refine rP rfl (fun _ z => z) ?_ | (refine kO 1 rfl ?_; refine rAdd rfl rfl rfl (by omega) ?_) | refine oN ?_ | refine aR ?_ | refine aK ?_); (try conv => whnf))
      exact ⟨i + 1, ⟨hlt, he⟩, by omega, canon_auto (by kernel_rfl)⟩
  obtain rfl : i = ts.length := by omega
  have d2 : ¬ tErr a ts ≠ 0 := by rw [he, List.drop_length]; exact fun h => h rfl
  clear he hlt hii
  by_cases r1 : -3 ≤ lo ∧ lo ≤ 3
  case neg =>
    have e : dErr2 lo hi fl = 2 := by unfold dErr2; rw [if_neg (fun h => r1 (allIn2.1 h).1)]
    rw [dE3 d1 d2 (by rw [e]; decide), e]
    repeat ((first | refine oP rfl ?_ | refine rP rfl (fun _ z => z) ?_ | (refine kO 1 rfl ?_; refine rG (fun _ z => z) ?_) | (refine kO 2 rfl ?_; refine rG (fun _ z => z) ?_) | (refine kO 3 rfl ?_; refine rLdb rfl rfl rfl rfl rfl rfl rfl ?_) | (refine kO 7 rfl ?_; refine rG (fun _ z => ⟨_, within_p _ _ _, z⟩) ?_) | (refine kO 6 rfl ?_; refine rLenv rfl rfl rfl rfl rfl rfl ?_) | refine oN ?_ | refine aS ?_ | refine aR ?_ | refine aX ?_ | refine aT ?_ | refine aC rfl ?_ | refine bT ?_ | refine bPf (by omega) ?_ | refine oZ rfl rfl rfl ?_ | refine oUt rfl rfl rfl (by omega) ?_); (try conv => whnf))
    (done)
  by_cases r2 : -3 ≤ hi ∧ hi ≤ 3
  case neg =>
    have e : dErr2 lo hi fl = 2 := by unfold dErr2; rw [if_neg (fun h => r2 (allIn2.1 h).2)]
    rw [dE3 d1 d2 (by rw [e]; decide), e]
    repeat ((first | refine oP rfl ?_ | refine rP rfl (fun _ z => z) ?_ | (refine kO 1 rfl ?_; refine rG (fun _ z => z) ?_) | (refine kO 2 rfl ?_; refine rG (fun _ z => z) ?_) | (refine kO 3 rfl ?_; refine rLdb rfl rfl rfl rfl rfl rfl rfl ?_) | (refine kO 7 rfl ?_; refine rG (fun _ z => ⟨_, within_p _ _ _, z⟩) ?_) | (refine kO 6 rfl ?_; refine rLenv rfl rfl rfl rfl rfl rfl ?_) | refine oN ?_ | refine aS ?_ | refine aR ?_ | refine aX ?_ | refine aT ?_ | refine aC rfl ?_ | refine bPt (by omega) ?_ | refine bPf (by omega) ?_ | refine oY rfl rfl rfl ?_ | refine oUf rfl rfl rfl (by omega) ?_); (try conv => whnf))
    (done)
  have r3 : AllIn [lo, hi] (-3) 3 := allIn2.2 ⟨r1, r2⟩
  by_cases r4 : lo ≤ hi
  case neg =>
    have e : dErr2 lo hi fl = 9 := by unfold dErr2; rw [if_pos r3, if_neg r4]
    rw [dE3 d1 d2 (by rw [e]; decide), e]
    repeat ((first | refine oP rfl ?_ | refine rP rfl (fun _ z => z) ?_ | (refine kO 1 rfl ?_; refine rG (fun _ z => z) ?_) | (refine kO 2 rfl ?_; refine rG (fun _ z => z) ?_) | (refine kO 3 rfl ?_; refine rLdb rfl rfl rfl rfl rfl rfl rfl ?_) | (refine kO 7 rfl ?_; refine rG (fun _ z => ⟨_, within_p _ _ _, z⟩) ?_) | (refine kO 6 rfl ?_; refine rLenv rfl rfl rfl rfl rfl rfl ?_) | refine oN ?_ | refine aS ?_ | refine aR ?_ | refine aK ?_ | refine aX ?_ | refine aT ?_ | refine aC rfl ?_ | refine bPt (by omega) ?_ | refine bPf (by omega) ?_ | refine oY rfl rfl rfl ?_ | refine oUf rfl rfl rfl (by omega) ?_); (try conv => whnf))
    (done)
  by_cases r5 : 0 < fl.length
  case neg =>
    have e : dErr2 lo hi fl = 10 := by unfold dErr2; rw [if_pos r3, if_pos r4, if_neg r5]
    rw [dE3 d1 d2 (by rw [e]; decide), e]
    repeat ((first | refine oP rfl ?_ | refine rP rfl (fun _ z => z) ?_ | (refine kO 1 rfl ?_; refine rG (fun _ z => z) ?_) | (refine kO 2 rfl ?_; refine rG (fun _ z => z) ?_) | (refine kO 3 rfl ?_; refine rLdb rfl rfl rfl rfl rfl rfl rfl ?_) | (refine kO 7 rfl ?_; refine rG (fun _ z => ⟨_, within_p _ _ _, z⟩) ?_) | (refine kO 6 rfl ?_; refine rLenv rfl rfl rfl rfl rfl rfl ?_) | refine oN ?_ | refine aS ?_ | refine aR ?_ | refine aK ?_ | refine aX ?_ | refine aT ?_ | refine aC rfl ?_ | refine bPt (by omega) ?_ | refine bPf (by omega) ?_ | refine oY rfl rfl rfl ?_ | refine oUf rfl rfl rfl (by omega) ?_); (try conv => whnf))
    (done)
  by_cases r6 : fl.length ≤ 4
  case neg =>
    have e : dErr2 lo hi fl = 8 := by unfold dErr2; rw [if_pos r3, if_pos r4, if_pos r5, if_neg r6]
    rw [dE3 d1 d2 (by rw [e]; decide), e]
    repeat ((first | refine oP rfl ?_ | refine rP rfl (fun _ z => z) ?_ | (refine kO 1 rfl ?_; refine rG (fun _ z => z) ?_) | (refine kO 2 rfl ?_; refine rG (fun _ z => z) ?_) | (refine kO 3 rfl ?_; refine rLdb rfl rfl rfl rfl rfl rfl rfl ?_) | (refine kO 7 rfl ?_; refine rG (fun _ z => ⟨_, within_p _ _ _, z⟩) ?_) | (refine kO 6 rfl ?_; refine rLenv rfl rfl rfl rfl rfl rfl ?_) | refine oN ?_ | refine aS ?_ | refine aR ?_ | refine aK ?_ | refine aX ?_ | refine aT ?_ | refine aC rfl ?_ | refine bPt (by omega) ?_ | refine bPf (by omega) ?_ | refine oY rfl rfl rfl ?_ | refine oUf rfl rfl rfl (by omega) ?_); (try conv => whnf))
    (done)
  have d3 : ¬ dErr2 lo hi fl ≠ 0 := by unfold dErr2; rw [if_pos r3, if_pos r4, if_pos r5, if_pos r6]; exact fun h => h rfl
  repeat ((first | refine oP rfl ?_ | refine rP rfl (fun _ z => z) ?_ | (refine kO 1 rfl ?_; refine rG (fun _ z => z) ?_) | (refine kO 2 rfl ?_; refine rG (fun _ z => z) ?_) | (refine kO 3 rfl ?_; refine rLdb rfl rfl rfl rfl rfl rfl rfl ?_) | (refine kO 7 rfl ?_; refine rG (fun _ z => ⟨_, within_p _ _ _, z⟩) ?_) | (refine kO 6 rfl ?_; refine rLenv rfl rfl rfl rfl rfl rfl ?_) | refine oN ?_ | refine aS ?_ | refine aR ?_ | refine aK ?_ | refine aX ?_ | refine aB ?_ | refine aC rfl ?_ | refine bPf (by omega) ?_ | refine aL ?_ | refine oY rfl rfl rfl ?_ | refine oUf rfl rfl rfl (by omega) ?_); (try conv => whnf))
  refine loop_ind (ι := Nat) (fun i => i ≤ fl.length ∧ aErr fl = fs ((fl.drop i).map fErr)) (fun i => fl.length - i) (fun i => ⟨[(1, pP 0), (5, vI i)], [(0, bDs a ts lo hi fl l0 l1 l2 l3 29)], 1⟩) 0 (canon_auto (by kernel_rfl)) ⟨Nat.zero_le _, rfl⟩ ?_
  rintro i ⟨hii, he⟩
  by_cases hlt : i < fl.length
  · have hget := fault_get hlt
    have g : Sat cx.P cx.gl 39 [(true, fcs (fl.getD i (0, 0, 0, 0, 0, 0)))] (.one (I (fErr (fl.getD i (0, 0, 0, 0, 0, 0))))) := faultErr_sat _ _ _ _ _ _ (hf _ (fault_mem hlt)).1 (hf _ (fault_mem hlt)).2
    rw [loopF i hlt] at he
    repeat ((first | refine oP rfl ?_ | refine rP rfl (fun _ z => z) ?_ | (refine kO 1 rfl ?_; refine rG (fun _ z => z) ?_) | (refine kO 3 rfl ?_; first | refine rLdb rfl rfl rfl rfl rfl rfl rfl ?_ | refine rG (fun _ z => z) ?_) | (refine kO 5 rfl ?_; refine rIdvN rfl rfl rfl rfl rfl rfl (by assumption) rfl ?_) | (refine kO 7 rfl ?_; refine rG (fun _ z => ⟨_, g, z⟩) ?_) | (refine kO 6 rfl ?_; refine rLenv rfl rfl rfl rfl rfl rfl ?_) | refine oN ?_ | refine aS ?_ | refine aR ?_ | refine aK ?_ | refine aB ?_ | refine aC rfl ?_ | refine bPt (by omega) ?_); (try conv => whnf))
    ((refine brp (fun h => ?_) (fun h => ?_)) <;> (try conv => whnf))
    · rw [if_pos h] at he
      rw [dE4 d1 d2 d3 (by omega), he]
      repeat ((first | refine oP rfl ?_ | refine rP rfl (fun _ z => z) ?_ | refine oN ?_ | refine aS ?_ | refine aR ?_ | refine aT ?_); (try conv => whnf))
      (rfl)
    · rw [if_neg h] at he
      repeat ((first | refine oP rfl ?_ | refine rP rfl (fun _ z => z) ?_ | (refine kO 1 rfl ?_; refine rAdd rfl rfl rfl (by omega) ?_) | refine oN ?_ | refine aR ?_ | refine aK ?_); (try conv => whnf))
      exact ⟨i + 1, ⟨hlt, he⟩, by omega, canon_auto (by kernel_rfl)⟩
  obtain rfl : i = fl.length := by omega
  have d4 : ¬ aErr fl ≠ 0 := by rw [he, List.drop_length]; exact fun h => h rfl
  clear he hlt hii
  rw [dE5 d1 d2 d3 d4]
  repeat ((first | refine oP rfl ?_ | refine rP rfl (fun _ z => z) ?_ | (refine kO 1 rfl ?_; refine rG (fun _ z => z) ?_) | (refine kO 3 rfl ?_; refine rLdb rfl rfl rfl rfl rfl rfl rfl ?_) | (refine kO 6 rfl ?_; refine rLenv rfl rfl rfl rfl rfl rfl ?_) | refine oN ?_ | refine aS ?_ | refine aR ?_ | refine aX ?_ | refine aB ?_ | refine aC rfl ?_ | refine bPf (by omega) ?_ | refine aL ?_); (try conv => whnf))
  by_cases s0 : 1 ≤ l0 ∧ l0 ≤ 100000000
  case neg =>
    rw [if_neg (fun h => s0 (allIn4.1 h).1)]
    refine loop_round ?_
    repeat ((first | refine oP rfl ?_ | refine rP rfl (fun _ z => z) ?_ | (refine kO 1 rfl ?_; refine rG (fun _ z => z) ?_) | (refine kO 2 rfl ?_; refine rG (fun _ z => z) ?_) | (refine kO 3 rfl ?_; refine rLdb rfl rfl rfl rfl rfl rfl rfl ?_) | (refine kO 7 rfl ?_; refine rG (fun _ z => ⟨_, within_p _ _ _, z⟩) ?_) | refine oN ?_ | refine aS ?_ | refine aR ?_ | refine aK ?_ | refine aB ?_ | refine aT ?_ | refine aC rfl ?_ | refine bT ?_ | refine bPt (by omega) ?_ | refine rG (fun _ z => ⟨(by (omega)), z⟩) ?_); (try conv => whnf))
    (done)
  refine loop_round ?_
  repeat ((first | refine oP rfl ?_ | refine rP rfl (fun _ z => z) ?_ | (refine kO 1 rfl ?_; first | refine rAdd rfl rfl rfl (by omega) ?_ | refine rG (fun _ z => z) ?_) | (refine kO 2 rfl ?_; refine rG (fun _ z => z) ?_) | (refine kO 3 rfl ?_; refine rLdb rfl rfl rfl rfl rfl rfl rfl ?_) | (refine kO 7 rfl ?_; refine rG (fun _ z => ⟨_, within_p _ _ _, z⟩) ?_) | refine oN ?_ | refine aS ?_ | refine aR ?_ | refine aK ?_ | refine aB ?_ | refine aC rfl ?_ | refine bT ?_ | refine bPf (by omega) ?_ | refine rG (fun _ z => ⟨(by (omega)), z⟩) ?_); (try conv => whnf))
  by_cases s1 : 1 ≤ l1 ∧ l1 ≤ 100000000
  case neg =>
    rw [if_neg (fun h => s1 (allIn4.1 h).2.1)]
    refine loop_round ?_
    repeat ((first | refine oP rfl ?_ | refine rP rfl (fun _ z => z) ?_ | (refine kO 1 rfl ?_; refine rG (fun _ z => z) ?_) | (refine kO 2 rfl ?_; refine rG (fun _ z => z) ?_) | (refine kO 3 rfl ?_; refine rLdb rfl rfl rfl rfl rfl rfl rfl ?_) | (refine kO 7 rfl ?_; refine rG (fun _ z => ⟨_, within_p _ _ _, z⟩) ?_) | refine oN ?_ | refine aS ?_ | refine aR ?_ | refine aK ?_ | refine aB ?_ | refine aT ?_ | refine aC rfl ?_ | refine bT ?_ | refine bPt (by omega) ?_ | refine rG (fun _ z => ⟨(by (omega)), z⟩) ?_); (try conv => whnf))
    (done)
  refine loop_round ?_
  repeat ((first | refine oP rfl ?_ | refine rP rfl (fun _ z => z) ?_ | (refine kO 1 rfl ?_; first | refine rAdd rfl rfl rfl (by omega) ?_ | refine rG (fun _ z => z) ?_) | (refine kO 2 rfl ?_; refine rG (fun _ z => z) ?_) | (refine kO 3 rfl ?_; refine rLdb rfl rfl rfl rfl rfl rfl rfl ?_) | (refine kO 7 rfl ?_; refine rG (fun _ z => ⟨_, within_p _ _ _, z⟩) ?_) | refine oN ?_ | refine aS ?_ | refine aR ?_ | refine aK ?_ | refine aB ?_ | refine aC rfl ?_ | refine bT ?_ | refine bPf (by omega) ?_ | refine rG (fun _ z => ⟨(by (omega)), z⟩) ?_); (try conv => whnf))
  by_cases s2 : 1 ≤ l2 ∧ l2 ≤ 100000000
  case neg =>
    rw [if_neg (fun h => s2 (allIn4.1 h).2.2.1)]
    refine loop_round ?_
    repeat ((first | refine oP rfl ?_ | refine rP rfl (fun _ z => z) ?_ | (refine kO 1 rfl ?_; refine rG (fun _ z => z) ?_) | (refine kO 2 rfl ?_; refine rG (fun _ z => z) ?_) | (refine kO 3 rfl ?_; refine rLdb rfl rfl rfl rfl rfl rfl rfl ?_) | (refine kO 7 rfl ?_; refine rG (fun _ z => ⟨_, within_p _ _ _, z⟩) ?_) | refine oN ?_ | refine aS ?_ | refine aR ?_ | refine aK ?_ | refine aB ?_ | refine aT ?_ | refine aC rfl ?_ | refine bT ?_ | refine bPt (by omega) ?_ | refine rG (fun _ z => ⟨(by (omega)), z⟩) ?_); (try conv => whnf))
    (done)
  refine loop_round ?_
  repeat ((first | refine oP rfl ?_ | refine rP rfl (fun _ z => z) ?_ | (refine kO 1 rfl ?_; first | refine rAdd rfl rfl rfl (by omega) ?_ | refine rG (fun _ z => z) ?_) | (refine kO 2 rfl ?_; refine rG (fun _ z => z) ?_) | (refine kO 3 rfl ?_; refine rLdb rfl rfl rfl rfl rfl rfl rfl ?_) | (refine kO 7 rfl ?_; refine rG (fun _ z => ⟨_, within_p _ _ _, z⟩) ?_) | refine oN ?_ | refine aS ?_ | refine aR ?_ | refine aK ?_ | refine aB ?_ | refine aC rfl ?_ | refine bT ?_ | refine bPf (by omega) ?_ | refine rG (fun _ z => ⟨(by (omega)), z⟩) ?_); (try conv => whnf))
  by_cases s3 : 1 ≤ l3 ∧ l3 ≤ 100000000
  case neg =>
    rw [if_neg (fun h => s3 (allIn4.1 h).2.2.2)]
    refine loop_round ?_
    repeat ((first | refine oP rfl ?_ | refine rP rfl (fun _ z => z) ?_ | (refine kO 1 rfl ?_; refine rG (fun _ z => z) ?_) | (refine kO 2 rfl ?_; refine rG (fun _ z => z) ?_) | (refine kO 3 rfl ?_; refine rLdb rfl rfl rfl rfl rfl rfl rfl ?_) | (refine kO 7 rfl ?_; refine rG (fun _ z => ⟨_, within_p _ _ _, z⟩) ?_) | refine oN ?_ | refine aS ?_ | refine aR ?_ | refine aK ?_ | refine aB ?_ | refine aT ?_ | refine aC rfl ?_ | refine bT ?_ | refine bPt (by omega) ?_ | refine rG (fun _ z => ⟨(by (omega)), z⟩) ?_); (try conv => whnf))
    (done)
  refine loop_round ?_
  repeat ((first | refine oP rfl ?_ | refine rP rfl (fun _ z => z) ?_ | (refine kO 1 rfl ?_; first | refine rAdd rfl rfl rfl (by omega) ?_ | refine rG (fun _ z => z) ?_) | (refine kO 2 rfl ?_; refine rG (fun _ z => z) ?_) | (refine kO 3 rfl ?_; refine rLdb rfl rfl rfl rfl rfl rfl rfl ?_) | (refine kO 7 rfl ?_; refine rG (fun _ z => ⟨_, within_p _ _ _, z⟩) ?_) | refine oN ?_ | refine aS ?_ | refine aR ?_ | refine aK ?_ | refine aB ?_ | refine aC rfl ?_ | refine bT ?_ | refine bPf (by omega) ?_ | refine rG (fun _ z => ⟨(by (omega)), z⟩) ?_); (try conv => whnf))
  refine loop_round ?_
  repeat ((first | refine oP rfl ?_ | refine rP rfl (fun _ z => z) ?_ | (refine kO 1 rfl ?_; refine rG (fun _ z => z) ?_) | refine oN ?_ | refine aS ?_ | refine aR ?_ | refine aX ?_ | refine aT ?_ | refine aC rfl ?_ | refine bF ?_); (try conv => whnf))
  rw [if_pos (allIn4.2 ⟨s0, s1, s2, s3⟩)]
  (done)
end
end Go.Proofs.Tryz

namespace Go.Proofs.Tryz
open Go.Fw Go.IntWalk Go.Plain
set_option maxRecDepth 100000
theorem holdsV_bounds (p q r s u n : Int) : 0 ≤ holdsV p q r s u n ∧ holdsV p q r s u n ≤ 2 := by
  unfold holdsV
  (repeat' split) <;> omega
theorem holdsV_two {p q r s u n : Int} : holdsV p q r s u n = 2 ↔ ¬ n * (s * s) < u * (r * r) := by
  unfold holdsV
  constructor
  · intro h
    split at h
    · assumption
    · split at h <;> omega
  · intro h; rw [if_pos h]
theorem leastF_mono {α : Type} {f g : α → Int} {l : List α} (h : ∀ x ∈ l, f x ≤ g x) (m : Int) : leastF f l m ≤ leastF g l m := by
  obtain ⟨h1, h2⟩ := leastF_le f l m
  rcases leastF_mem g l m with e | ⟨x, hx, e⟩
  · rw [e]; exact h1
  · rw [e]
    have := h2 x hx
    have := h x hx
    omega
section
variable {a : List Int} {ts : List (List Int)} {lo hi : Int} {fl : List Fa} {l0 l1 l2 l3 : Int}
theorem anC_bounds (c : Ca) : 0 ≤ anC a ts fl l0 l1 l2 l3 c ∧ anC a ts fl l0 l1 l2 l3 c ≤ 2 := holdsV_bounds ..
theorem anC_two {c : Ca} : anC a ts fl l0 l1 l2 l3 c = 2 ↔ ¬ ltQ (1, 1) (qL (ldF a ts fl l0 l1 l2 l3 c)) := by
  unfold anC
  rw [holdsV_two]
  show _ ↔ ¬ (1 * (liF l0 l1 l2 l3 c * pkD (faF fl c) * pkD (faF fl c)) < unF a ts c * pkN (faF fl c) * pkN (faF fl c) * 1)
  rw [Int.one_mul, Int.mul_one, Int.mul_assoc, Int.mul_assoc]
theorem worst_two (h : DOK a ts lo hi fl l0 l1 l2 l3) (hw : anC a ts fl l0 l1 l2 l3 (worstC a ts lo hi fl l0 l1 l2 l3) = 2) : ∀ c ∈ casL ts.length lo hi fl.length, anC a ts fl l0 l1 l2 l3 c = 2 := by
  intro c hc
  have hm := worstC_max a ts lo hi fl l0 l1 l2 l3 h c hc
  have hwm := worstC_mem a ts lo hi fl l0 l1 l2 l3 h
  have hcm := casL_mem.1 hc
  unfold ltC at hm
  rw [rC_eq a ts lo hi fl l0 l1 l2 l3 h hwm, rC_eq a ts lo hi fl l0 l1 l2 l3 h hcm] at hm
  have hm : ¬ ltQ _ _ := of_decide_eq_false hm
  rw [anC_two] at hw ⊢
  have pos : ∀ c, CaOK ts.length lo hi fl.length c → posQ (qL (ldF a ts fl l0 l1 l2 l3 c)) := fun c hc => by
    have h1 := (pkD_pos (h.flt' hc)).1
    have h2 := (h.lim c).1
    exact Int.mul_pos (Int.mul_pos (show 0 < liF l0 l1 l2 l3 c by omega) h1) h1
  exact le_trans' (pos c hcm) (pos _ hwm) (show (0 : Int) < 1 by decide) hm hw
theorem ws_bounds (h : DOK a ts lo hi fl l0 l1 l2 l3) : (0 ≤ wsV a ts lo hi fl l0 l1 l2 l3 ∧ wsV a ts lo hi fl l0 l1 l2 l3 ≤ 2) ∧ ∀ c, CaOK ts.length lo hi fl.length c → wsV a ts lo hi fl l0 l1 l2 l3 ≤ anC a ts fl l0 l1 l2 l3 c := by
  obtain ⟨h1, h2⟩ := leastF_le (anC a ts fl l0 l1 l2 l3) (casL ts.length lo hi fl.length) 2
  refine ⟨⟨?_, h1⟩, fun c hc => h2 c (casL_mem.2 hc)⟩
  rcases leastF_mem (anC a ts fl l0 l1 l2 l3) (casL ts.length lo hi fl.length) 2 with e | ⟨x, hx, e⟩
  · unfold wsV; rw [e]; decide
  · unfold wsV; rw [e]; exact (anC_bounds x).1
theorem ws_two (h : DOK a ts lo hi fl l0 l1 l2 l3) : wsV a ts lo hi fl l0 l1 l2 l3 = 2 ↔ anC a ts fl l0 l1 l2 l3 (worstC a ts lo hi fl l0 l1 l2 l3) = 2 := by
  constructor
  · intro e
    have := (ws_bounds h).2 _ (worstC_mem a ts lo hi fl l0 l1 l2 l3 h)
    have := anC_bounds (a := a) (ts := ts) (fl := fl) (l0 := l0) (l1 := l1) (l2 := l2) (l3 := l3) (worstC a ts lo hi fl l0 l1 l2 l3)
    omega
  · intro e
    have hall := worst_two h e
    rcases leastF_mem (anC a ts fl l0 l1 l2 l3) (casL ts.length lo hi fl.length) 2 with e | ⟨x, hx, e⟩
    · exact e
    · unfold wsV; rw [e]; exact hall x hx
theorem liF_two (c : Ca) : liF (2 * l0) (2 * l1) (2 * l2) (2 * l3) c = 2 * liF l0 l1 l2 l3 c := by
  unfold liF
  (repeat' split) <;> rfl
theorem ltC_two : ltC a ts fl (2 * l0) (2 * l1) (2 * l2) (2 * l3) = ltC a ts fl l0 l1 l2 l3 := by
  have e1 : ∀ c, qL (ldF a ts fl (2 * l0) (2 * l1) (2 * l2) (2 * l3) c) = ((qL (ldF a ts fl l0 l1 l2 l3 c)).1, 2 * (qL (ldF a ts fl l0 l1 l2 l3 c)).2) := by
    intro c
    unfold qL
    simp only [liF_two, Int.mul_assoc]
  funext c d
  unfold ltC rC
  simp only [e1]
  generalize qL (ldF a ts fl l0 l1 l2 l3 c) = x
  generalize qL (ldF a ts fl l0 l1 l2 l3 d) = y
  obtain ⟨x1, x2⟩ := x
  obtain ⟨y1, y2⟩ := y
  simp only
  have k1 : (0 < 2 * x2) ↔ 0 < x2 := by omega
  have k2 : (0 < 2 * y2) ↔ 0 < y2 := by omega
  simp only [k1, k2]
  have m1 : x1 * (2 * y2) = 2 * (x1 * y2) := by rw [Int.mul_left_comm]
  have m2 : y1 * (2 * x2) = 2 * (y1 * x2) := by rw [Int.mul_left_comm]
  by_cases p : 0 < x2 <;> by_cases q : 0 < y2
  · simp only [if_pos p, if_pos q]
    apply decide_eq_decide.2
    unfold ltQ
    simp only
    rw [m1, m2]; omega
  · simp only [if_pos p, if_neg q]
    apply decide_eq_decide.2
    unfold ltQ
    simp
  · simp only [if_neg p, if_pos q]
    apply decide_eq_decide.2
    unfold ltQ
    simp
  · simp only [if_neg p, if_neg q]
theorem worstC_two : worstC a ts lo hi fl (2 * l0) (2 * l1) (2 * l2) (2 * l3) = worstC a ts lo hi fl l0 l1 l2 l3 := by
  unfold worstC
  rw [ltC_two]
theorem anC_mono (h : DOK a ts lo hi fl l0 l1 l2 l3) {c : Ca} (hc : CaOK ts.length lo hi fl.length c) : anC a ts fl l0 l1 l2 l3 c ≤ anC a ts fl (2 * l0) (2 * l1) (2 * l2) (2 * l3) c := by
  obtain ⟨_, _, _, _⟩ := pk_bounds (h.flt' hc)
  have hl := h.lim c
  unfold anC
  rw [liF_two]
  generalize liF l0 l1 l2 l3 c = n at *
  have s1 : 0 ≤ pkB (faF fl c) * pkB (faF fl c) := Int.mul_nonneg (by omega) (by omega)
  have s2 : 0 ≤ pkD (faF fl c) * pkD (faF fl c) := Int.mul_nonneg (by omega) (by omega)
  unfold holdsV
  generalize pkB (faF fl c) * pkB (faF fl c) = B at *
  generalize pkD (faF fl c) * pkD (faF fl c) = D at *
  have t1 : 0 ≤ n * B := Int.mul_nonneg (by omega) s1
  have t2 : 0 ≤ n * D := Int.mul_nonneg (by omega) s2
  have e1 : 2 * n * B = 2 * (n * B) := Int.mul_assoc ..
  have e2 : 2 * n * D = 2 * (n * D) := Int.mul_assoc ..
  rw [e1, e2]
  (repeat' split) <;> omega
theorem wsV_mono (h : DOK a ts lo hi fl l0 l1 l2 l3) : wsV a ts lo hi fl l0 l1 l2 l3 ≤ wsV a ts lo hi fl (2 * l0) (2 * l1) (2 * l2) (2 * l3) :=
  leastF_mono (fun _ hc => anC_mono h (casL_mem.1 hc)) 2
theorem DOK.two (h : DOK a ts lo hi fl l0 l1 l2 l3) (h0 : 2 * l0 ≤ 100000000) (h1 : 2 * l1 ≤ 100000000) (h2 : 2 * l2 ≤ 100000000) (h3 : 2 * l3 ≤ 100000000) : DOK a ts lo hi fl (2 * l0) (2 * l1) (2 * l2) (2 * l3) :=
  ⟨h.t0, h.t4, h.a12, h.win, h.lo3, h.hi3, h.le, h.f0, h.f4, h.flt, by have := h.b0; omega, by have := h.b1; omega, by have := h.b2; omega, by have := h.b3; omega⟩
theorem DOK.err (h : DOK a ts lo hi fl l0 l1 l2 l3) : dErr a ts lo hi fl l0 l1 l2 l3 = 0 := by
  have z : ∀ {α : Type} {f : α → Int} {l : List α}, (∀ x ∈ l, f x = 0) → fs (l.map f) = 0 := by
    intro α f l h
    induction l with
    | nil => rfl
    | cons y l ih =>
      rw [List.map_cons]
      unfold fs
      rw [if_neg (by rw [h y List.mem_cons_self]; decide)]
      exact ih fun x hx => h x (List.mem_cons_of_mem _ hx)
  have e1 : dErr1 a ts = 0 := by unfold dErr1; rw [if_pos h.t0, if_pos ⟨h.t4, h.a12⟩]
  have e2 : tErr a ts = 0 := z h.win
  have e3 : dErr2 lo hi fl = 0 := by unfold dErr2; rw [if_pos (allIn2.2 ⟨h.lo3, h.hi3⟩), if_pos h.le, if_pos h.f0, if_pos h.f4]
  have e4 : aErr fl = 0 := z h.flt
  unfold dErr
  rw [e1, e2, e3, e4, if_pos (allIn4.2 ⟨h.b0, h.b1, h.b2, h.b3⟩)]
  rfl
end
end Go.Proofs.Tryz
