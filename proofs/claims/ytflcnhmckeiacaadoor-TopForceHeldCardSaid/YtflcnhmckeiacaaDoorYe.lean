/- Parts of the proof, joined. -/
import Derived.Test.YtflcnhmckeiacaaDoorYd
namespace Go.Proofs.Tryd
open Go.Fw Go.IntWalk Go.Plain
set_option maxRecDepth 100000
set_option maxHeartbeats 16000000
/-- The first of the worst cases so far, and its load. -/
def firstP (lt : Ca → Ca → Bool) : List Ca → Ca
  | [] => (0, 0, 0, 0)
  | c :: l => best lt l c
def grP (lt : Ca → Ca → Bool) (ld : Ca → Int × Int × Int × Int) : List Ca → Int × Int
  | [] => (-1, 1)
  | c :: l => rdQ (ld (best lt l c))
def allP (an : Ca → Int) (P : List Ca) : Bool := P.all fun c => decide (an c = 2)
def sureP (an : Ca → Int) (P : List Ca) : Bool := P.any fun c => decide (an c = 0)
theorem allP_snoc (an : Ca → Int) (P : List Ca) (c : Ca) : allP an (P ++ [c]) = (allP an P && decide (an c = 2)) := by simp [allP]
theorem sureP_snoc (an : Ca → Int) (P : List Ca) (c : Ca) : sureP an (P ++ [c]) = (sureP an P || decide (an c = 0)) := by simp [sureP]
theorem firstP_snoc (lt : Ca → Ca → Bool) (ld : Ca → Int × Int × Int × Int) (P : List Ca) (c : Ca) : firstP lt (P ++ [c]) = (if P = [] then c else if lt (firstP lt P) c = true then c else firstP lt P) ∧ grP lt ld (P ++ [c]) = rdQ (ld (firstP lt (P ++ [c]))) := by
  cases P with
  | nil => exact ⟨rfl, rfl⟩
  | cons d P =>
    refine ⟨?_, rfl⟩
    show best lt (P ++ [c]) d = _
    rw [if_neg (List.cons_ne_nil d P), best_snoc]; rfl
theorem anC_sign {p q r s u n : Int} (hu : 0 ≤ u) (hp : 0 ≤ p) (hr : 0 ≤ r) (hq : 0 < q) (hs : 0 < s) (h : p * s ≤ r * q) : holdsV p q r s u n = 0 ↔ n * (q * q) < u * (p * p) := by
  have hqq : 0 < q * q := Int.mul_pos hq hq
  have hss : 0 < s * s := Int.mul_pos hs hs
  have key : n * (q * q) < u * (p * p) → n * (s * s) < u * (r * r) := by
    intro h1
    have sq : p * s * (p * s) ≤ r * q * (r * q) := Int.mul_le_mul h h (Int.mul_nonneg hp (by omega)) (Int.mul_nonneg hr (by omega))
    have s1 : n * (q * q) * (s * s) < u * (p * p) * (s * s) := Int.mul_lt_mul_of_pos_right h1 hss
    have s2 : u * (p * s * (p * s)) ≤ u * (r * q * (r * q)) := Int.mul_le_mul_of_nonneg_left sq hu
    refine Int.lt_of_mul_lt_mul_right (a := q * q) ?_ (by omega)
    have e1 : n * (s * s) * (q * q) = n * (q * q) * (s * s) := by ac_rfl
    have e2 : u * (r * r) * (q * q) = u * (r * q * (r * q)) := by ac_rfl
    have e3 : u * (p * p) * (s * s) = u * (p * s * (p * s)) := by ac_rfl
    rw [e1, e2]; rw [e3] at s1; omega
  unfold holdsV
  constructor
  · intro h1
    split at h1
    · omega
    · split at h1
      · assumption
      · omega
  · intro h1
    rw [if_neg (fun hh => hh (key h1)), if_pos h1]
/-- What RatioCmp finds of a unit at a current and a limit. -/
theorem lim_cmp {u p q l : Int} (hu : 0 ≤ u ∧ u ≤ 9000000) (hp : 0 ≤ p ∧ p ≤ 100000) (hq : 1 ≤ q ∧ q ≤ 100000) (hl : 1 ≤ l ∧ l ≤ 100000000) :
    Sat cx.P cx.gl 19 [rt (rdN u p q) (rdE u p q), rt l 1] (.one (I (u * (p * p) - l * (q * q)).sign)) := by
  obtain ⟨e1, e2, e3, e4, _⟩ := rdN_facts hu hp hq
  have g := ratioCmp_sat (n := rdN u p q) (d := rdE u p q) (m := l) (e := 1) (e3.mono (by omega)) (e4.mono (by omega)) ((sz3 (k := l) (by omega)).mono (by omega)) ((sz3 (k := 1) (by omega)).mono (by omega))
  rw [Int.mul_one, cmp_sign (Int.mul_pos (by omega) (by omega)) e1 e2] at g
  exact g
section
variable (a : List Int) (ts : List (List Int)) (lo hi : Int) (fl : List Fa) (l0 l1 l2 l3 : Int)
theorem gr_step (h : DOK a ts lo hi fl l0 l1 l2 l3) (P : List Ca) (hP : ∀ x ∈ P, CaOK ts.length lo hi fl.length x) (c : Ca) (hc : CaOK ts.length lo hi fl.length c) :
    ∃ z, Sat cx.P cx.gl 19 [rt (rdQ (ldF a ts fl l0 l1 l2 l3 c)).1 (rdQ (ldF a ts fl l0 l1 l2 l3 c)).2, rt (grP (ltC a ts fl l0 l1 l2 l3) (ldF a ts fl l0 l1 l2 l3) P).1 (grP (ltC a ts fl l0 l1 l2 l3) (ldF a ts fl l0 l1 l2 l3) P).2] (.one (I z))
      ∧ (0 < z → firstP (ltC a ts fl l0 l1 l2 l3) (P ++ [c]) = c ∧ grP (ltC a ts fl l0 l1 l2 l3) (ldF a ts fl l0 l1 l2 l3) (P ++ [c]) = rdQ (ldF a ts fl l0 l1 l2 l3 c))
      ∧ (¬ 0 < z → firstP (ltC a ts fl l0 l1 l2 l3) (P ++ [c]) = firstP (ltC a ts fl l0 l1 l2 l3) P ∧ grP (ltC a ts fl l0 l1 l2 l3) (ldF a ts fl l0 l1 l2 l3) (P ++ [c]) = grP (ltC a ts fl l0 l1 l2 l3) (ldF a ts fl l0 l1 l2 l3) P) := by
  obtain ⟨f1, f2⟩ := firstP_snoc (ltC a ts fl l0 l1 l2 l3) (ldF a ts fl l0 l1 l2 l3) P c
  have lb := load_lb a ts lo hi fl l0 l1 l2 l3 h hc
  have hq := (pkD_pos (h.flt' hc)).1
  obtain ⟨a1, a2, a3, a4, a5⟩ := rdQ_facts lb hq
  cases P with
  | nil =>
    have hge : 0 ≤ (rdQ (ldF a ts fl l0 l1 l2 l3 c)).1 := by
      have hb := (q_bounds lb).1.1
      generalize rdQ (ldF a ts fl l0 l1 l2 l3 c) = x at *
      refine Classical.byContradiction fun hn => ?_
      have h1 : x.1 * (qL (ldF a ts fl l0 l1 l2 l3 c)).2 < 0 := Int.mul_neg_of_neg_of_pos (by omega) a5
      have h2 : 0 ≤ (qL (ldF a ts fl l0 l1 l2 l3 c)).1 * x.2 := Int.mul_nonneg hb (by omega)
      omega
    refine ⟨_, ratioCmp_sat (m := -1) (e := 1) (a3.mono (by omega)) (a4.mono (by omega)) ((sz3 (k := -1) (by omega)).mono (by omega)) ((sz3 (k := 1) (by omega)).mono (by omega)), fun _ => ?_, fun hn => ?_⟩
    · rw [if_pos rfl] at f1
      rw [f2, f1]; exact ⟨rfl, rfl⟩
    · exfalso
      have f := sign_facts ((rdQ (ldF a ts fl l0 l1 l2 l3 c)).1 * 1 - -1 * (rdQ (ldF a ts fl l0 l1 l2 l3 c)).2)
      omega
  | cons d P =>
    rw [if_neg (List.cons_ne_nil d P)] at f1
    have hm : CaOK ts.length lo hi fl.length (best (ltC a ts fl l0 l1 l2 l3) P d) := hP _ (first_mem (best_first (ltC_ord a ts fl l0 l1 l2 l3) _ _).1)
    obtain ⟨g1, g2⟩ := ld_cmp a ts lo hi fl l0 l1 l2 l3 h hm hc
    refine ⟨_, g1, fun hz => ?_, fun hz => ?_⟩
    · rw [show ltC a ts fl l0 l1 l2 l3 (firstP (ltC a ts fl l0 l1 l2 l3) (d :: P)) c = true from g2.2 hz, if_pos rfl] at f1
      rw [f2, f1]; exact ⟨rfl, rfl⟩
    · rw [if_neg (show ¬ ltC a ts fl l0 l1 l2 l3 (firstP (ltC a ts fl l0 l1 l2 l3) (d :: P)) c = true from fun hh => hz (g2.1 hh))] at f1
      rw [f2, f1]; exact ⟨rfl, rfl⟩
theorem hi_lo (h : DOK a ts lo hi fl l0 l1 l2 l3) (c : Ca) (hc : CaOK ts.length lo hi fl.length c) :
    ((unF a ts c * (pkN (faF fl c) * pkN (faF fl c)) - liF l0 l1 l2 l3 c * (pkD (faF fl c) * pkD (faF fl c))).sign ≤ 0 ↔ anC a ts fl l0 l1 l2 l3 c = 2) ∧
    (0 < (unF a ts c * (pkA (faF fl c) * pkA (faF fl c)) - liF l0 l1 l2 l3 c * (pkB (faF fl c) * pkB (faF fl c))).sign ↔ anC a ts fl l0 l1 l2 l3 c = 0) := by
  have lb := load_lb a ts lo hi fl l0 l1 l2 l3 h hc
  have hf := h.flt' hc
  obtain ⟨b1, b2, b3, b4⟩ := pk_bounds hf
  obtain ⟨q1, q2⟩ := pkD_pos hf
  have hcross : pkA (faF fl c) * pkD (faF fl c) ≤ pkN (faF fl c) * pkB (faF fl c) := by
    obtain ⟨x1, x2, x3, x4, x5, x6, x7, x8⟩ := faultErr_zero hf
    obtain ⟨y1, y2, y3, y4⟩ := peak_bounds hf
    refine low_cross (by omega) (by omega) ?_
    exact Int.mul_le_mul (Int.mul_le_mul_of_nonneg_right x7 (by omega)) (Int.mul_le_mul_of_nonneg_right x8 (by omega)) (by omega) y3.1
  have hz : anC a ts fl l0 l1 l2 l3 c = 0 ↔ _ := anC_sign (n := liF l0 l1 l2 l3 c) lb.1.1 b1.1 b3.1 q2 q1 hcross
  have ht : anC a ts fl l0 l1 l2 l3 c = 2 ↔ _ := holdsV_two
  rw [hz, ht]
  have f1 := sign_facts (unF a ts c * (pkN (faF fl c) * pkN (faF fl c)) - liF l0 l1 l2 l3 c * (pkD (faF fl c) * pkD (faF fl c)))
  have f2 := sign_facts (unF a ts c * (pkA (faF fl c) * pkA (faF fl c)) - liF l0 l1 l2 l3 c * (pkB (faF fl c) * pkB (faF fl c)))
  generalize unF a ts c * (pkN (faF fl c) * pkN (faF fl c)) = X1 at *
  generalize liF l0 l1 l2 l3 c * (pkD (faF fl c) * pkD (faF fl c)) = X2 at *
  generalize unF a ts c * (pkA (faF fl c) * pkA (faF fl c)) = X3 at *
  generalize liF l0 l1 l2 l3 c * (pkB (faF fl c) * pkB (faF fl c)) = X4 at *
  constructor <;> omega
theorem ends_all (h : DOK a ts lo hi fl l0 l1 l2 l3) : firstP (ltC a ts fl l0 l1 l2 l3) (casL ts.length lo hi fl.length) = worstC a ts lo hi fl l0 l1 l2 l3 ∧
    allP (anC a ts fl l0 l1 l2 l3) (casL ts.length lo hi fl.length) = decide (wsV a ts lo hi fl l0 l1 l2 l3 = 2) ∧ sureP (anC a ts fl l0 l1 l2 l3) (casL ts.length lo hi fl.length) = decide (wsV a ts lo hi fl l0 l1 l2 l3 = 0) := by
  have hcons := cas_cons a ts lo hi fl l0 l1 l2 l3 h
  obtain ⟨g1, g2⟩ := leastF_le (anC a ts fl l0 l1 l2 l3) (casL ts.length lo hi fl.length) 2
  have g3 := leastF_mem (anC a ts fl l0 l1 l2 l3) (casL ts.length lo hi fl.length) 2
  refine ⟨?_, ?_, ?_⟩
  · unfold worstC
    rw [hcons]; rfl
  · unfold wsV allP
    rw [Bool.eq_iff_iff, List.all_eq_true, decide_eq_true_iff]
    constructor
    · intro hh
      rcases g3 with e | ⟨x, hx, e⟩
      · exact e
      · rw [e]; exact of_decide_eq_true (hh x hx)
    · intro hh x hx
      have := g2 x hx
      have := anC_bounds (a := a) (ts := ts) (fl := fl) (l0 := l0) (l1 := l1) (l2 := l2) (l3 := l3) x
      exact decide_eq_true (by omega)
  · unfold wsV sureP
    rw [Bool.eq_iff_iff, List.any_eq_true, decide_eq_true_iff]
    constructor
    · rintro ⟨x, hx, hh⟩
      have := g2 x hx
      have h0 : anC a ts fl l0 l1 l2 l3 x = 0 := of_decide_eq_true hh
      rcases g3 with e | ⟨y, hy, e⟩
      · omega
      · have := anC_bounds (a := a) (ts := ts) (fl := fl) (l0 := l0) (l1 := l1) (l2 := l2) (l3 := l3) y
        omega
    · intro hh
      rcases g3 with e | ⟨y, hy, e⟩
      · omega
      · exact ⟨y, hy, decide_eq_true (by omega)⟩
end
end Go.Proofs.Tryd

namespace Go.Proofs.Tryd
open Go.Fw Go.IntWalk Go.Plain
set_option maxRecDepth 100000
set_option maxHeartbeats 32000000
abbrev vBl (b : Bool) : Option DV := some (.val (false, [.st (.lit (.bool b))]))
theorem shown_sat : Sat cx.P cx.gl 5 [] (.one (Bo true)) := fnE_ok cx_ok (L := 300) 40 _ _ _ (by kernel_rfl)
section
variable (a : List Int) (ts : List (List Int)) (lo hi : Int) (fl : List Fa) (l0 l1 l2 l3 : Int)
theorem lim_get (k : Nat) (hk : k < 4) (t s f : Int) : ∀ off, off = 5 + k → ([.st (.ints a), .st (.view (ts.map fun t => [.ints t])), .st (J lo), .st (J hi), .st (.view (fl.map fcs)), .st (J l0), .st (J l1), .st (J l2), .st (J l3)] : List DC)[off]? = some (.st (J (liF l0 l1 l2 l3 ((k : Int), t, s, f)))) := by
  rintro off rfl
  match k, hk with
  | 0, _ => rfl
  | 1, _ => rfl
  | 2, _ => rfl
  | 3, _ => rfl
theorem case_sats (h : DOK a ts lo hi fl l0 l1 l2 l3) (c : Ca) (hc : CaOK ts.length lo hi fl.length c) (hn : inI (faF fl c).2.2.2.2.1 ∧ inI (faF fl c).2.2.2.2.2) :
    Sat cx.P cx.gl 14 [(true, fcs (faF fl c))] (.tup [F4 (pkA (faF fl c)) (pkB (faF fl c)) (pkN (faF fl c)) (pkD (faF fl c)), I 0]) ∧
    (Sat cx.P cx.gl 15 [F2 (pkA (faF fl c)) (pkB (faF fl c))] (.one (Bo true)) ∧ Sat cx.P cx.gl 15 [F2 (pkN (faF fl c)) (pkD (faF fl c))] (.one (Bo true)) ∧
     Sat cx.P cx.gl 16 [F2 (pkA (faF fl c)) (pkB (faF fl c))] (.one (Bo true)) ∧ Sat cx.P cx.gl 16 [F2 (pkN (faF fl c)) (pkD (faF fl c))] (.one (Bo true))) ∧
    (Sat cx.P cx.gl 17 [F2 (pkA (faF fl c)) (pkB (faF fl c))] (.one (rt (pkA (faF fl c)) (pkB (faF fl c)))) ∧ Sat cx.P cx.gl 17 [F2 (pkN (faF fl c)) (pkD (faF fl c))] (.one (rt (pkN (faF fl c)) (pkD (faF fl c)))) ∧
     Sat cx.P cx.gl 12 [I (liF l0 l1 l2 l3 c)] (.one (rt (liF l0 l1 l2 l3 c) 1)) ∧ Sat cx.P cx.gl 12 [I (unF a ts c)] (.one (rt (unF a ts c) 1))) ∧
    (Sat cx.P cx.gl 18 [rt (pkN (faF fl c)) (pkD (faF fl c)), rt (pkN (faF fl c)) (pkD (faF fl c))] (.one (rt (lowNum (pkN (faF fl c) * pkN (faF fl c)) (pkD (faF fl c) * pkD (faF fl c))) (lowDen (pkN (faF fl c) * pkN (faF fl c)) (pkD (faF fl c) * pkD (faF fl c))))) ∧
     Sat cx.P cx.gl 18 [rt (unF a ts c) 1, rt (lowNum (pkN (faF fl c) * pkN (faF fl c)) (pkD (faF fl c) * pkD (faF fl c))) (lowDen (pkN (faF fl c) * pkN (faF fl c)) (pkD (faF fl c) * pkD (faF fl c)))] (.one (rt (rdN (unF a ts c) (pkN (faF fl c)) (pkD (faF fl c))) (rdE (unF a ts c) (pkN (faF fl c)) (pkD (faF fl c))))) ∧
     Sat cx.P cx.gl 18 [rt (pkA (faF fl c)) (pkB (faF fl c)), rt (pkA (faF fl c)) (pkB (faF fl c))] (.one (rt (lowNum (pkA (faF fl c) * pkA (faF fl c)) (pkB (faF fl c) * pkB (faF fl c))) (lowDen (pkA (faF fl c) * pkA (faF fl c)) (pkB (faF fl c) * pkB (faF fl c))))) ∧
     Sat cx.P cx.gl 18 [rt (unF a ts c) 1, rt (lowNum (pkA (faF fl c) * pkA (faF fl c)) (pkB (faF fl c) * pkB (faF fl c))) (lowDen (pkA (faF fl c) * pkA (faF fl c)) (pkB (faF fl c) * pkB (faF fl c)))] (.one (rt (rdN (unF a ts c) (pkA (faF fl c)) (pkB (faF fl c))) (rdE (unF a ts c) (pkA (faF fl c)) (pkB (faF fl c)))))) ∧
    Sat cx.P cx.gl 19 [rt (rdN (unF a ts c) (pkN (faF fl c)) (pkD (faF fl c))) (rdE (unF a ts c) (pkN (faF fl c)) (pkD (faF fl c))), rt (liF l0 l1 l2 l3 c) 1] (.one (I (unF a ts c * (pkN (faF fl c) * pkN (faF fl c)) - liF l0 l1 l2 l3 c * (pkD (faF fl c) * pkD (faF fl c))).sign)) ∧
    Sat cx.P cx.gl 19 [rt (rdN (unF a ts c) (pkA (faF fl c)) (pkB (faF fl c))) (rdE (unF a ts c) (pkA (faF fl c)) (pkB (faF fl c))), rt (liF l0 l1 l2 l3 c) 1] (.one (I (unF a ts c * (pkA (faF fl c) * pkA (faF fl c)) - liF l0 l1 l2 l3 c * (pkB (faF fl c) * pkB (faF fl c))).sign)) ∧
    Sat cx.P cx.gl 20 [rt (rdN (unF a ts c) (pkN (faF fl c)) (pkD (faF fl c))) (rdE (unF a ts c) (pkN (faF fl c)) (pkD (faF fl c))), rt (liF l0 l1 l2 l3 c) 1] (.one (rt (rdQ (ldF a ts fl l0 l1 l2 l3 c)).1 (rdQ (ldF a ts fl l0 l1 l2 l3 c)).2)) := by
  have hfe := h.flt' hc
  have lb := load_lb a ts lo hi fl l0 l1 l2 l3 h hc
  obtain ⟨c1, c2, c3, c4⟩ := pk_bounds hfe
  obtain ⟨q1, q2⟩ := pkD_pos hfe
  obtain ⟨y1, y2, y3, y4⟩ := peak_bounds hfe
  have hl := h.lim c
  have hg1 := pk_low hfe
  have hg2 : Int.gcd (pkA (faF fl c)) (pkB (faF fl c)) = 1 := low_gcd (n := (faF fl c).1 * (faF fl c).2.2.2.2.1) (show 0 < (faF fl c).2.2.2.1 * (faF fl c).2.2.2.2.2 by omega)
  have hu := lb.1
  have d1 := peakOf_sat (faF fl c).1 (faF fl c).2.1 (faF fl c).2.2.1 (faF fl c).2.2.2.1 (faF fl c).2.2.2.2.1 (faF fl c).2.2.2.2.2 hn.1 hn.2
  rw [if_pos (show faultErr _ _ _ _ _ _ = 0 from hfe)] at d1
  have e2 : Sat cx.P cx.gl 15 [F2 (pkA (faF fl c)) (pkB (faF fl c))] (.one (Bo true)) := isLowest_low y1 y2
  have e3 : Sat cx.P cx.gl 15 [F2 (pkN (faF fl c)) (pkD (faF fl c))] (.one (Bo true)) := isLowest_low y3 y4
  have e4 : Sat cx.P cx.gl 16 [F2 (pkA (faF fl c)) (pkB (faF fl c))] (.one (Bo true)) := isSmall_low y1 y2
  have e5 : Sat cx.P cx.gl 16 [F2 (pkN (faF fl c)) (pkD (faF fl c))] (.one (Bo true)) := isSmall_low y3 y4
  have d1' : Sat cx.P cx.gl 14 [(true, fcs (faF fl c))] (.tup [F4 (pkA (faF fl c)) (pkB (faF fl c)) (pkN (faF fl c)) (pkD (faF fl c)), I 0]) := d1
  clear d1 y1 y2 y3 y4
  have hu' : 0 ≤ unF a ts c ∧ unF a ts c ≤ 9000000 := hu
  have hq : rdQ (ldF a ts fl l0 l1 l2 l3 c) = (lowNum (rdN (unF a ts c) (pkN (faF fl c)) (pkD (faF fl c)) * 1) (rdE (unF a ts c) (pkN (faF fl c)) (pkD (faF fl c)) * liF l0 l1 l2 l3 c), lowDen (rdN (unF a ts c) (pkN (faF fl c)) (pkD (faF fl c)) * 1) (rdE (unF a ts c) (pkN (faF fl c)) (pkD (faF fl c)) * liF l0 l1 l2 l3 c)) := rfl
  rw [hq]
  clear hq hu lb
  have s : ∀ x : Int, 0 ≤ x → x ≤ 100000000 → Sz 20000 x := fun x h1 h2 => (sz3 (k := x) ⟨by omega, by omega⟩).mono (by omega)
  have r1 := ratioFrom_sat (n := pkA (faF fl c)) (d := pkB (faF fl c)) (by omega) (by omega)
  have r2 := ratioFrom_sat (n := pkN (faF fl c)) (d := pkD (faF fl c)) (by omega) (by omega)
  rw [(low_one hg2).1, (low_one hg2).2] at r1
  rw [(low_one hg1).1, (low_one hg1).2] at r2
  have n1 := rdN_facts hu' c1 (q := pkB (faF fl c)) (by omega)
  have n2 := rdN_facts hu' c3 (q := pkD (faF fl c)) (by omega)
  have m1 := lim_cmp (l := liF l0 l1 l2 l3 c) hu' c1 (q := pkB (faF fl c)) (by omega) hl
  have m2 := lim_cmp (l := liF l0 l1 l2 l3 c) hu' c3 (q := pkD (faF fl c)) (by omega) hl
  generalize liF l0 l1 l2 l3 c = l at *
  generalize unF a ts c = u at *
  generalize pkA (faF fl c) = A at *
  generalize pkB (faF fl c) = Bq at *
  generalize pkN (faF fl c) = N at *
  generalize pkD (faF fl c) = D at *
  have k1 := ratioMul_sat (s N (by omega) (by omega)) (s D (by omega) (by omega)) (s N (by omega) (by omega)) (s D (by omega) (by omega)) (Int.mul_pos q1 q1)
  have k2 := ratioMul_sat (s u (by omega) (by omega)) (s 1 (by omega) (by omega)) (n2.2.2.2.2.1.mono (by omega)) (n2.2.2.2.2.2.1.mono (by omega)) n2.2.2.2.2.2.2
  have k3 := ratioMul_sat (s A (by omega) (by omega)) (s Bq (by omega) (by omega)) (s A (by omega) (by omega)) (s Bq (by omega) (by omega)) (Int.mul_pos q2 q2)
  have k4 := ratioMul_sat (s u (by omega) (by omega)) (s 1 (by omega) (by omega)) (n1.2.2.2.2.1.mono (by omega)) (n1.2.2.2.2.2.1.mono (by omega)) n1.2.2.2.2.2.2
  have k5 := ratioDiv_sat (n := rdN u N D) (d := rdE u N D) (m := l) (e := 1) (n2.2.2.1.mono (by omega)) (n2.2.2.2.1.mono (by omega)) (s l (by omega) (by omega)) (s 1 (by omega) (by omega)) (Int.mul_pos n2.1 (by omega))
  exact ⟨d1', ⟨e2, e3, e4, e5⟩, ⟨r1, r2, ratioInt_sat l (by omega), ratioInt_sat u (by omega)⟩, ⟨k1, k2, k3, k4⟩, m2, m1, k5⟩
theorem topForceHeld_sat (ha : a.length ≤ maxLen) (ht : ∀ t ∈ ts, t.length ≤ maxLen) (hT : ts.length ≤ maxLen) (hF : fl.length ≤ maxLen) (hf : ∀ f ∈ fl, inI f.2.2.2.2.1 ∧ inI f.2.2.2.2.2) :
    Sat cx.P cx.gl 3 [Ds a ts lo hi fl l0 l1 l2 l3] (.one (Bo true)) := by
  have fd := fewDesign_sat a ts lo hi fl l0 l1 l2 l3 hT hF ha
  have de := refDesignErr_sat a ts lo hi fl l0 l1 l2 l3 ha ht hT hF hf
  have od := openDesign_sat a ts lo hi fl l0 l1 l2 l3 ha ht hT hF hf
  by_cases hfew : ((a.length ≤ 17 ∧ ts.length ≤ 6 ∧ fl.length ≤ 6) ∧ ∀ t ∈ ts, t.length ≤ 17)
  case neg =>
    rw [decide_eq_false hfew] at fd
    refine Sat_of_awp (fn := f3) cx_ok (by kernel_rfl) (by kernel_rfl) rfl (by kernel_rfl) (Nat.le_of_ble_eq_true rfl) ?_
    repeat ((first | refine oP rfl ?_ | refine rP rfl (fun _ z => z) ?_ | (refine kO 2 rfl ?_; refine rG (fun _ z => z) ?_) | (refine kO 3 rfl ?_; refine rG (fun _ z => z) ?_) | (refine kO 7 rfl ?_; first | refine rG (fun _ z => ⟨_, shown_sat, z⟩) ?_ | refine rG (fun _ z => ⟨_, fd, z⟩) ?_) | refine oN ?_ | refine aS ?_ | refine aR ?_ | refine aK ?_ | refine aT ?_ | refine aC rfl ?_ | refine bT ?_ | refine bF ?_ | refine oZ rfl rfl rfl ?_); (try conv => whnf))
    (done)
  rw [decide_eq_true hfew] at fd
  by_cases hde : dErr a ts lo hi fl l0 l1 l2 l3 = 0
  case neg =>
    generalize dErr a ts lo hi fl l0 l1 l2 l3 = E at *
    refine Sat_of_awp (fn := f3) cx_ok (by kernel_rfl) (by kernel_rfl) rfl (by kernel_rfl) (Nat.le_of_ble_eq_true rfl) ?_
    repeat ((first | refine oP rfl ?_ | refine rP rfl (fun _ z => z) ?_ | (refine kO 1 rfl ?_; refine rG (fun _ z => z) ?_) | (refine kO 2 rfl ?_; refine rG (fun _ z => z) ?_) | (refine kO 3 rfl ?_; refine rG (fun _ z => z) ?_) | (refine kO 7 rfl ?_; first | refine rG (fun _ z => ⟨_, shown_sat, z⟩) ?_ | refine rG (fun _ z => ⟨_, fd, z⟩) ?_ | refine rG (fun _ z => ⟨_, de, z⟩) ?_) | refine oN ?_ | refine aS ?_ | refine aR ?_ | refine aK ?_ | refine aT ?_ | refine aC rfl ?_ | refine bF ?_ | refine bPt (by omega) ?_ | refine oY rfl rfl rfl ?_); (try conv => whnf))
    (done)
  rw [hde] at de od
  have h := dErr_ok hde
  have hll := hfew.1
  have hlt : ∀ t ∈ ts, t.length ≤ 1000000 := fun t hm => Nat.le_trans (hfew.2 t hm) (by decide)
  have cp := copyDesign_sat a ts lo hi fl l0 l1 l2 l3 (by omega) (by omega) hlt (by omega)
  have wo := worstOf_sat a ts lo hi fl l0 l1 l2 l3 h od
  have ws := withstandsF_sat a ts lo hi fl l0 l1 l2 l3 h od
  have hwm := worstC_mem a ts lo hi fl l0 l1 l2 l3 h
  have ce := refCaseErr_sat a ts lo hi fl l0 l1 l2 l3 (worstC a ts lo hi fl l0 l1 l2 l3) (by omega) (by omega)
  rw [cErr_zero.2 hwm] at ce
  have hwb := (ws_bounds h).1
  obtain ⟨en1, en2, en3⟩ := ends_all a ts lo hi fl l0 l1 l2 l3 h
  have hgr := gr_step a ts lo hi fl l0 l1 l2 l3 h
  have hhl := hi_lo a ts lo hi fl l0 l1 l2 l3 h
  have hmem : ∀ c, c ∈ casL ts.length lo hi fl.length → CaOK ts.length lo hi fl.length c := fun c hc => casL_mem.1 hc
  have hlb := fun c hc => load_lb a ts lo hi fl l0 l1 l2 l3 h (c := c) hc
  have hml : (ts.map fun t => [SC.ints t]).length = ts.length := List.length_map _
  have hmf : (fl.map fcs).length = fl.length := List.length_map _
  have hbT := h.t4
  have hbF := h.f4
  have hblo := h.lo3
  have hbhi := h.hi3
  have hble := h.le
  have hba := h.a12
  have g0 := ratioInt_sat (-1) (by omega)
  generalize worstC a ts lo hi fl l0 l1 l2 l3 = W at *
  generalize wsV a ts lo hi fl l0 l1 l2 l3 = B at *
  generalize ltC a ts fl l0 l1 l2 l3 = lt at *
  generalize hAN : anC a ts fl l0 l1 l2 l3 = an at *
  generalize hLD : ldF a ts fl l0 l1 l2 l3 = ld at *
  obtain ⟨wk, wt, WS, wf⟩ := W
  refine Sat_of_awp (fn := f3) cx_ok (by kernel_rfl) (by kernel_rfl) rfl (by kernel_rfl) (Nat.le_of_ble_eq_true rfl) ?_
  repeat ((first | refine oP rfl ?_ | refine rP rfl (fun _ z => z) ?_ | (refine kO 1 rfl ?_; refine rG (fun _ z => z) ?_) | (refine kO 2 rfl ?_; refine rG (fun _ z => z) ?_) | (refine kO 3 rfl ?_; refine rG (fun _ z => z) ?_) | (refine kO 4 rfl ?_; refine rG (fun _ z => z) ?_) | (refine kO 7 rfl ?_; first | refine rG (fun _ z => ⟨_, shown_sat, z⟩) ?_ | refine rG (fun _ z => ⟨_, fd, z⟩) ?_ | refine rG (fun _ z => ⟨_, de, z⟩) ?_ | refine rG (fun _ z => ⟨_, cp, z⟩) ?_ | refine rG (fun _ z => ⟨_, ws, z⟩) ?_ | refine rG (fun _ z => ⟨_, wo, z⟩) ?_ | refine rG (fun _ z => ⟨_, ce, z⟩) ?_ | refine rG (fun _ z => ⟨_, g0, z⟩) ?_) | refine oN ?_ | refine aS ?_ | refine aR ?_ | refine aK ?_ | refine aB ?_ | refine aC rfl ?_ | refine bF ?_ | refine aL ?_ | refine oY rfl rfl rfl ?_); (try conv => whnf))
  refine loop_ind (ι := Nat) (fun k => k ≤ 4) (fun k => 4 - k) (fun k => ⟨[(1, pP 0), (3, vI B), (5, pP 1), (7, vBl (allP an (casPre k 0 0 0 ts.length lo (hi - lo + 1).toNat fl.length))), (8, vBl (sureP an (casPre k 0 0 0 ts.length lo (hi - lo + 1).toNat fl.length))), (9, pP 2), (10, pP 3), (11, vI (k))], [(0, bDs a ts lo hi fl l0 l1 l2 l3 29), (1, some (.box 38 [.st (J wk), .st (J wt), .st (J WS), .st (J wf)])), (2, some (.box 45 [.st (J (grP lt ld (casPre k 0 0 0 ts.length lo (hi - lo + 1).toNat fl.length)).1.sign), .st (.ints (digs (grP lt ld (casPre k 0 0 0 ts.length lo (hi - lo + 1).toNat fl.length)).1.natAbs)), .st (J (grP lt ld (casPre k 0 0 0 ts.length lo (hi - lo + 1).toNat fl.length)).2.sign), .st (.ints (digs (grP lt ld (casPre k 0 0 0 ts.length lo (hi - lo + 1).toNat fl.length)).2.natAbs))])), (3, some (.box 38 [.st (J (firstP lt (casPre k 0 0 0 ts.length lo (hi - lo + 1).toNat fl.length)).1), .st (J (firstP lt (casPre k 0 0 0 ts.length lo (hi - lo + 1).toNat fl.length)).2.1), .st (J (firstP lt (casPre k 0 0 0 ts.length lo (hi - lo + 1).toNat fl.length)).2.2.1), .st (J (firstP lt (casPre k 0 0 0 ts.length lo (hi - lo + 1).toNat fl.length)).2.2.2)]))], 4⟩) 0 (canon_auto (by rw [casPre_0]; kernel_rfl)) (Nat.zero_le _) ?_
  intro k hk
  by_cases hk4 : k < 4
  case neg =>
    obtain rfl : k = 4 := by omega
    rw [casPre_K]
    have e0 : casK 4 ts.length lo (hi - lo + 1).toNat fl.length = casL ts.length lo hi fl.length := rfl
    have e11 : (firstP lt (casL ts.length lo hi fl.length)).1 = wk := by rw [en1]
    have e12 : (firstP lt (casL ts.length lo hi fl.length)).2.1 = wt := by rw [en1]
    have e13 : (firstP lt (casL ts.length lo hi fl.length)).2.2.1 = WS := by rw [en1]
    have e14 : (firstP lt (casL ts.length lo hi fl.length)).2.2.2 = wf := by rw [en1]
    rw [e0, en2, en3, e11, e12, e13, e14]
    have hB3 : B = 0 ∨ B = 1 ∨ B = 2 := by omega
    rcases hB3 with rfl | rfl | rfl
    · rw [decide_eq_false (by decide : ¬ (0 : Int) = 2), decide_eq_true (rfl : (0 : Int) = 0)]
      repeat ((first | refine oP rfl ?_ | refine rP rfl (fun _ z => z) ?_ | (refine kO 1 rfl ?_; refine rG (fun _ z => z) ?_) | (refine kO 3 rfl ?_; refine rG (fun _ z => z) ?_) | refine oN ?_ | refine aS ?_ | refine aR ?_ | refine aX ?_ | refine aT ?_ | refine aC rfl ?_ | refine bF ?_ | refine oY rfl rfl rfl ?_ | refine oIt rfl rfl rfl (by omega) ?_); (try conv => whnf))
      (rfl)
    · rw [decide_eq_false (by decide : ¬ (1 : Int) = 2), decide_eq_false (by decide : ¬ (1 : Int) = 0)]
      repeat ((first | refine oP rfl ?_ | refine rP rfl (fun _ z => z) ?_ | (refine kO 1 rfl ?_; refine rG (fun _ z => z) ?_) | (refine kO 3 rfl ?_; refine rG (fun _ z => z) ?_) | refine oN ?_ | refine aS ?_ | refine aR ?_ | refine aX ?_ | refine aT ?_ | refine aC rfl ?_ | refine bF ?_ | refine oY rfl rfl rfl ?_ | refine oIt rfl rfl rfl (by omega) ?_); (try conv => whnf))
      (rfl)
    · rw [decide_eq_true (rfl : (2 : Int) = 2), decide_eq_false (by decide : ¬ (2 : Int) = 0)]
      repeat ((first | refine oP rfl ?_ | refine rP rfl (fun _ z => z) ?_ | (refine kO 1 rfl ?_; refine rG (fun _ z => z) ?_) | (refine kO 3 rfl ?_; refine rG (fun _ z => z) ?_) | refine oN ?_ | refine aS ?_ | refine aR ?_ | refine aX ?_ | refine aT ?_ | refine aC rfl ?_ | refine bF ?_ | refine oY rfl rfl rfl ?_ | refine oIt rfl rfl rfl (by omega) ?_); (try conv => whnf))
      (rfl)
  repeat ((first | refine oP rfl ?_ | refine rP rfl (fun _ z => z) ?_ | (refine kO 1 rfl ?_; refine rG (fun _ z => z) ?_) | refine oN ?_ | refine aS ?_ | refine aR ?_ | refine aK ?_ | refine aB ?_ | refine aC rfl ?_ | refine bPt (by omega) ?_ | refine aL ?_); (try conv => whnf))
  refine loop_ind (ι := Nat) (fun t => t ≤ ts.length) (fun t => ts.length - t) (fun t => ⟨[(1, pP 0), (3, vI B), (5, pP 1), (7, vBl (allP an (casPre k t 0 0 ts.length lo (hi - lo + 1).toNat fl.length))), (8, vBl (sureP an (casPre k t 0 0 ts.length lo (hi - lo + 1).toNat fl.length))), (9, pP 2), (10, pP 3), (11, vI (k)), (12, vI (t))], [(0, bDs a ts lo hi fl l0 l1 l2 l3 29), (1, some (.box 38 [.st (J wk), .st (J wt), .st (J WS), .st (J wf)])), (2, some (.box 45 [.st (J (grP lt ld (casPre k t 0 0 ts.length lo (hi - lo + 1).toNat fl.length)).1.sign), .st (.ints (digs (grP lt ld (casPre k t 0 0 ts.length lo (hi - lo + 1).toNat fl.length)).1.natAbs)), .st (J (grP lt ld (casPre k t 0 0 ts.length lo (hi - lo + 1).toNat fl.length)).2.sign), .st (.ints (digs (grP lt ld (casPre k t 0 0 ts.length lo (hi - lo + 1).toNat fl.length)).2.natAbs))])), (3, some (.box 38 [.st (J (firstP lt (casPre k t 0 0 ts.length lo (hi - lo + 1).toNat fl.length)).1), .st (J (firstP lt (casPre k t 0 0 ts.length lo (hi - lo + 1).toNat fl.length)).2.1), .st (J (firstP lt (casPre k t 0 0 ts.length lo (hi - lo + 1).toNat fl.length)).2.2.1), .st (J (firstP lt (casPre k t 0 0 ts.length lo (hi - lo + 1).toNat fl.length)).2.2.2)]))], 4⟩) 0 (canon_auto (by kernel_rfl)) (Nat.zero_le _) ?_
  intro t ht
  by_cases htT : t < ts.length
  case neg =>
    obtain rfl : t = ts.length := by omega
    rw [casPre_T]
    repeat ((first | refine oP rfl ?_ | refine rP rfl (fun _ z => z) ?_ | (refine kO 1 rfl ?_; first | refine rAdd rfl rfl rfl (by omega) ?_ | refine rG (fun _ z => z) ?_) | (refine kO 3 rfl ?_; refine rLdb rfl rfl rfl rfl rfl rfl rfl ?_) | (refine kO 6 rfl ?_; refine rLenv rfl rfl rfl rfl rfl rfl ?_) | refine oN ?_ | refine aS ?_ | refine aR ?_ | refine aX ?_ | refine aC rfl ?_ | refine bPf (by omega) ?_); (try conv => whnf))
    exact ⟨k + 1, by omega, by omega, canon_auto (by kernel_rfl)⟩
  repeat ((first | refine oP rfl ?_ | refine rP rfl (fun _ z => z) ?_ | (refine kO 1 rfl ?_; refine rG (fun _ z => z) ?_) | (refine kO 3 rfl ?_; refine rLdb rfl rfl rfl rfl rfl rfl rfl ?_) | (refine kO 6 rfl ?_; refine rLenv rfl rfl rfl rfl rfl rfl ?_) | refine oN ?_ | refine aS ?_ | refine aR ?_ | refine aK ?_ | refine aB ?_ | refine aC rfl ?_ | refine bPt (by omega) ?_ | refine aL ?_); (try conv => whnf))
  refine loop_ind (ι := Nat) (fun s => s ≤ (hi - lo + 1).toNat) (fun s => (hi - lo + 1).toNat - s) (fun s => ⟨[(1, pP 0), (3, vI B), (5, pP 1), (7, vBl (allP an (casPre k t s 0 ts.length lo (hi - lo + 1).toNat fl.length))), (8, vBl (sureP an (casPre k t s 0 ts.length lo (hi - lo + 1).toNat fl.length))), (9, pP 2), (10, pP 3), (11, vI (k)), (12, vI (t)), (13, vI (lo + s))], [(0, bDs a ts lo hi fl l0 l1 l2 l3 29), (1, some (.box 38 [.st (J wk), .st (J wt), .st (J WS), .st (J wf)])), (2, some (.box 45 [.st (J (grP lt ld (casPre k t s 0 ts.length lo (hi - lo + 1).toNat fl.length)).1.sign), .st (.ints (digs (grP lt ld (casPre k t s 0 ts.length lo (hi - lo + 1).toNat fl.length)).1.natAbs)), .st (J (grP lt ld (casPre k t s 0 ts.length lo (hi - lo + 1).toNat fl.length)).2.sign), .st (.ints (digs (grP lt ld (casPre k t s 0 ts.length lo (hi - lo + 1).toNat fl.length)).2.natAbs))])), (3, some (.box 38 [.st (J (firstP lt (casPre k t s 0 ts.length lo (hi - lo + 1).toNat fl.length)).1), .st (J (firstP lt (casPre k t s 0 ts.length lo (hi - lo + 1).toNat fl.length)).2.1), .st (J (firstP lt (casPre k t s 0 ts.length lo (hi - lo + 1).toNat fl.length)).2.2.1), .st (J (firstP lt (casPre k t s 0 ts.length lo (hi - lo + 1).toNat fl.length)).2.2.2)]))], 4⟩) 0 (by rw [show lo + ((0 : Nat) : Int) = lo by omega]; exact canon_auto (by kernel_rfl)) (Nat.zero_le _) ?_
  intro s hs
  by_cases hsS : s < (hi - lo + 1).toNat
  case neg =>
    obtain rfl : s = (hi - lo + 1).toNat := by omega
    rw [casPre_S]
    repeat ((first | refine oP rfl ?_ | refine rP rfl (fun _ z => z) ?_ | (refine kO 1 rfl ?_; first | refine rAdd rfl rfl rfl (by omega) ?_ | refine rG (fun _ z => z) ?_) | (refine kO 3 rfl ?_; refine rLdb rfl rfl rfl rfl rfl rfl rfl ?_) | refine oN ?_ | refine aS ?_ | refine aR ?_ | refine aX ?_ | refine aC rfl ?_ | refine bPf (by omega) ?_); (try conv => whnf))
    exact ⟨t + 1, by omega, by omega, canon_auto (by kernel_rfl)⟩
  have hwt : VW a (ts.getD t []) := windowErr_zero.1 (h.win _ (tap_mem htT))
  have htg := tap_get htT
  have gu := forceUnitOf_sat a (ts.getD t []) (lo + s) k hwt (by omega) (by omega) (by omega)
  repeat ((first | refine oP rfl ?_ | refine rP rfl (fun _ z => z) ?_ | (refine kO 1 rfl ?_; refine rG (fun _ z => z) ?_) | (refine kO 3 rfl ?_; first | refine rLdr rfl rfl rfl rfl rfl ?_ | refine rLdb rfl rfl rfl rfl rfl rfl rfl ?_) | (refine kO 5 rfl ?_; refine rIdvN rfl rfl rfl rfl rfl rfl (by assumption) rfl ?_) | (refine kO 7 rfl ?_; refine rG (fun _ z => ⟨_, gu, z⟩) ?_) | refine oN ?_ | refine aS ?_ | refine aR ?_ | refine aK ?_ | refine aB ?_ | refine aC rfl ?_ | refine bPt (by omega) ?_ | refine aL ?_ | refine dI (by kernel_rfl) ?_); (try conv => whnf))
  refine loop_ind (ι := Nat) (fun f => f ≤ fl.length) (fun f => fl.length - f) (fun f => ⟨[(1, pP 0), (3, vI B), (5, pP 1), (7, vBl (allP an (casPre k t s f ts.length lo (hi - lo + 1).toNat fl.length))), (8, vBl (sureP an (casPre k t s f ts.length lo (hi - lo + 1).toNat fl.length))), (9, pP 2), (10, pP 3), (11, vI (k)), (12, vI (t)), (13, vI (lo + s)), (14, vI (unitV (shI a (lo + s)) (shO (ts.getD t []) (lo + s)) k)), (15, vI (f))], [(0, bDs a ts lo hi fl l0 l1 l2 l3 29), (1, some (.box 38 [.st (J wk), .st (J wt), .st (J WS), .st (J wf)])), (2, some (.box 45 [.st (J (grP lt ld (casPre k t s f ts.length lo (hi - lo + 1).toNat fl.length)).1.sign), .st (.ints (digs (grP lt ld (casPre k t s f ts.length lo (hi - lo + 1).toNat fl.length)).1.natAbs)), .st (J (grP lt ld (casPre k t s f ts.length lo (hi - lo + 1).toNat fl.length)).2.sign), .st (.ints (digs (grP lt ld (casPre k t s f ts.length lo (hi - lo + 1).toNat fl.length)).2.natAbs))])), (3, some (.box 38 [.st (J (firstP lt (casPre k t s f ts.length lo (hi - lo + 1).toNat fl.length)).1), .st (J (firstP lt (casPre k t s f ts.length lo (hi - lo + 1).toNat fl.length)).2.1), .st (J (firstP lt (casPre k t s f ts.length lo (hi - lo + 1).toNat fl.length)).2.2.1), .st (J (firstP lt (casPre k t s f ts.length lo (hi - lo + 1).toNat fl.length)).2.2.2)]))], 4⟩) 0 (canon_auto (by kernel_rfl)) (Nat.zero_le _) ?_
  intro f hf'
  by_cases hfF : f < fl.length
  case neg =>
    obtain rfl : f = fl.length := by omega
    rw [casPre_F]
    repeat ((first | refine oP rfl ?_ | refine rP rfl (fun _ z => z) ?_ | (refine kO 1 rfl ?_; first | refine rAdd rfl rfl rfl (by omega) ?_ | refine rG (fun _ z => z) ?_) | (refine kO 3 rfl ?_; refine rLdb rfl rfl rfl rfl rfl rfl rfl ?_) | (refine kO 6 rfl ?_; refine rLenv rfl rfl rfl rfl rfl rfl ?_) | refine oN ?_ | refine aS ?_ | refine aR ?_ | refine aX ?_ | refine aC rfl ?_ | refine bPf (by omega) ?_); (try conv => whnf))
    exact ⟨s + 1, by omega, by omega, canon_auto (by rw [show lo + ((s + 1 : Nat) : Int) = lo + (s : Int) + 1 by omega]; kernel_rfl)⟩
  have hpre := casPre_prefix (K := 4) (lo := lo) hk4 htT hsS hfF
  have hc : CaOK ts.length lo hi fl.length ((k : Int), (t : Int), lo + (s : Int), (f : Int)) := hmem _ (hpre.subset (by simp))
  have hP : ∀ x ∈ casPre k t s f ts.length lo (hi - lo + 1).toNat fl.length, CaOK ts.length lo hi fl.length x := fun x hx => hmem x (hpre.subset (by simp [hx]))
  obtain ⟨z, gz, hz1, hz2⟩ := hgr _ hP _ hc
  have hal := allP_snoc an (casPre k t s f ts.length lo (hi - lo + 1).toNat fl.length) ((k : Int), (t : Int), lo + (s : Int), (f : Int))
  have hsu := sureP_snoc an (casPre k t s f ts.length lo (hi - lo + 1).toNat fl.length) ((k : Int), (t : Int), lo + (s : Int), (f : Int))
  rw [← casPre_next] at hal hsu hz1 hz2
  obtain ⟨ha1, ha2⟩ := hhl _ hc
  obtain ⟨d1, ⟨d2, d3, d4, d5⟩, ⟨d6, d7, d8, d9⟩, ⟨d10, d11, d12, d13⟩, d14, d15, d16⟩ := case_sats a ts lo hi fl l0 l1 l2 l3 h _ hc (hf _ (fault_mem hfF))
  have hlg := lim_get a ts lo hi fl l0 l1 l2 l3 k hk4 t (lo + s) f
  have hfg : (fl.map fcs)[f]? = some (fcs (faF fl ((k : Int), (t : Int), lo + (s : Int), (f : Int)))) := fault_get (fl := fl) (f := f) hfF
  rw [hLD] at d16
  have hun : unF a ts ((k : Int), (t : Int), lo + (s : Int), (f : Int)) = unitV (shI a (lo + s)) (shO (ts.getD t []) (lo + s)) k := rfl
  rw [← hun]
  generalize unF a ts ((k : Int), (t : Int), lo + (s : Int), (f : Int)) = U at *
  generalize faF fl ((k : Int), (t : Int), lo + (s : Int), (f : Int)) = FA at *
  generalize pkA FA = pa at *
  generalize pkB FA = pb at *
  generalize pkN FA = pn at *
  generalize pkD FA = pd at *
  generalize liF l0 l1 l2 l3 ((k : Int), (t : Int), lo + (s : Int), (f : Int)) = LK at *
  generalize rdN U pn pd = rn at *
  generalize rdE U pn pd = re at *
  generalize rdN U pa pb = rm at *
  generalize rdE U pa pb = rf at *
  generalize lowNum (pn * pn) (pd * pd) = w1 at *
  generalize lowDen (pn * pn) (pd * pd) = w2 at *
  generalize lowNum (pa * pa) (pb * pb) = w3 at *
  generalize lowDen (pa * pa) (pb * pb) = w4 at *
  generalize (U * (pn * pn) - LK * (pd * pd)).sign = z1 at *
  generalize (U * (pa * pa) - LK * (pb * pb)).sign = z2 at *
  generalize rdQ (ld ((k : Int), (t : Int), lo + (s : Int), (f : Int))) = Q at *
  generalize casPre k t s f ts.length lo (hi - lo + 1).toNat fl.length = P at *
  have f1 : decide (an ((k : Int), (t : Int), lo + (s : Int), (f : Int)) = 2) = decide (z1 ≤ 0) := decide_eq_decide.2 ha1.symm
  have f2 : decide (an ((k : Int), (t : Int), lo + (s : Int), (f : Int)) = 0) = decide (0 < z2) := decide_eq_decide.2 ha2.symm
  rw [f1] at hal
  rw [f2] at hsu
  clear f1 f2 ha1 ha2 hpre hP hgr hhl hlb hmem
  obtain ⟨fa1, fa2, fa3, fa4, fa5, fa6⟩ := FA
  generalize allP an P = A1 at *
  generalize sureP an P = A2 at *
  generalize grP lt ld P = G at *
  generalize firstP lt P = X at *
  repeat ((first | refine oP rfl ?_ | refine rP rfl (fun _ z => z) ?_ | (refine kO 1 rfl ?_; refine rG (fun _ z => z) ?_) | (refine kO 2 rfl ?_; refine rG (fun _ z => z) ?_) | (refine kO 3 rfl ?_; first | refine rLdb rfl rfl rfl rfl rfl rfl rfl ?_ | refine rG (fun _ z => z) ?_) | (refine kO 4 rfl ?_; refine rG (fun _ z => z) ?_) | (refine kO 5 rfl ?_; refine rIdvN rfl rfl rfl rfl rfl rfl (by assumption) rfl ?_) | (refine kO 7 rfl ?_; first | refine rG (fun _ z => ⟨_, d1, z⟩) ?_ | refine rG (fun _ z => ⟨_, d2, z⟩) ?_ | refine rG (fun _ z => ⟨_, d3, z⟩) ?_ | refine rG (fun _ z => ⟨_, d4, z⟩) ?_ | refine rG (fun _ z => ⟨_, d5, z⟩) ?_ | refine rG (fun _ z => ⟨_, d6, z⟩) ?_ | refine rG (fun _ z => ⟨_, d7, z⟩) ?_) | (refine kO 6 rfl ?_; refine rLenv rfl rfl rfl rfl rfl rfl ?_) | refine oN ?_ | refine aS ?_ | refine aR ?_ | refine aK ?_ | refine aB ?_ | refine aC rfl ?_ | refine bF ?_ | refine bPt (by omega) ?_ | refine oY rfl rfl rfl ?_ | refine dI (by kernel_rfl) ?_ | refine rG (fun _ z => ⟨(by (omega)), z⟩) ?_); (try conv => whnf))
  refine rLdb rfl rfl rfl rfl rfl rfl (hlg _ (by (simp; done))) ?_
  (try conv => whnf)
  repeat ((first | refine oP rfl ?_ | refine rP rfl (fun _ z => z) ?_ | (refine kO 3 rfl ?_; refine rG (fun _ z => z) ?_) | (refine kO 4 rfl ?_; refine rG (fun _ z => z) ?_) | (refine kO 7 rfl ?_; first | refine rG (fun _ z => ⟨_, d8, z⟩) ?_ | refine rG (fun _ z => ⟨_, d9, z⟩) ?_ | refine rG (fun _ z => ⟨_, d10, z⟩) ?_ | refine rG (fun _ z => ⟨_, d11, z⟩) ?_) | refine oN ?_ | refine aS ?_ | refine aR ?_ | refine dI (by kernel_rfl) ?_); (try conv => whnf))
  cases A1 <;> cases A2
  all_goals
    repeat ((first | refine oP rfl ?_ | refine rP rfl (fun _ z => z) ?_ | (refine kO 1 rfl ?_; refine rG (fun _ z => z) ?_) | (refine kO 3 rfl ?_; refine rG (fun _ z => z) ?_) | (refine kO 4 rfl ?_; refine rG (fun _ z => z) ?_) | (refine kO 7 rfl ?_; first | refine rG (fun _ z => ⟨_, d14, z⟩) ?_ | refine rG (fun _ z => ⟨_, d9, z⟩) ?_ | refine rG (fun _ z => ⟨_, d12, z⟩) ?_ | refine rG (fun _ z => ⟨_, d13, z⟩) ?_ | refine rG (fun _ z => ⟨_, d15, z⟩) ?_ | refine rG (fun _ z => ⟨_, d16, z⟩) ?_ | refine rG (fun _ z => ⟨_, gz, z⟩) ?_) | refine oN ?_ | refine aS ?_ | refine aR ?_ | refine aC rfl ?_ | refine oY rfl rfl rfl ?_ | refine oZ rfl rfl rfl ?_ | refine dI (by kernel_rfl) ?_); (try conv => whnf))
    ((refine brp (fun h => ?_) (fun h => ?_)) <;> (try conv => whnf))
    · repeat ((first | refine oP rfl ?_ | refine rP rfl (fun _ z => z) ?_ | (refine kO 1 rfl ?_; refine rAdd rfl rfl rfl (by omega) ?_) | (refine kO 3 rfl ?_; refine rG (fun _ z => z) ?_) | (refine kO 4 rfl ?_; refine rG (fun _ z => z) ?_) | refine oN ?_ | refine aS ?_ | refine aR ?_); (try conv => whnf))
      obtain ⟨x1, x2⟩ := hz1 (by omega)
      exact ⟨f + 1, hfF, by omega, canon_auto (by rw [hal, hsu, x1, x2]; kernel_rfl)⟩
    · repeat ((first | refine oP rfl ?_ | refine rP rfl (fun _ z => z) ?_ | (refine kO 1 rfl ?_; refine rAdd rfl rfl rfl (by omega) ?_) | refine oN ?_ | refine aR ?_ | refine aK ?_); (try conv => whnf))
      obtain ⟨x1, x2⟩ := hz2 (by omega)
      exact ⟨f + 1, hfF, by omega, canon_auto (by rw [hal, hsu, x1, x2]; kernel_rfl)⟩
end
end Go.Proofs.Tryd
