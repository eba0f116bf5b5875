/- Parts of the proof, joined. -/
import Derived.Test.YtflcnhmckeiacaaDoorYb
namespace Go.Proofs.Tryd
open Go.Fw Go.IntWalk Go.Plain
set_option maxRecDepth 100000
theorem holdsV_bounds (p q r s u n : Int) : 0 ≤ holdsV p q r s u n ∧ holdsV p q r s u n ≤ 2 := by
  unfold holdsV
  (repeat' split) <;> omega
theorem holdsV_two {p q r s u n : Int} : holdsV p q r s u n = 2 ↔ ¬ n * (s * s) < u * (r * r) := by
  unfold holdsV
  constructor
  · intro h
    split at h
    · assumption
    · split at h <;> omega
  · intro h; rw [if_pos h]
theorem leastF_mono {α : Type} {f g : α → Int} {l : List α} (h : ∀ x ∈ l, f x ≤ g x) (m : Int) : leastF f l m ≤ leastF g l m := by
  obtain ⟨h1, h2⟩ := leastF_le f l m
  rcases leastF_mem g l m with e | ⟨x, hx, e⟩
  · rw [e]; exact h1
  · rw [e]
    have := h2 x hx
    have := h x hx
    omega
section
variable {a : List Int} {ts : List (List Int)} {lo hi : Int} {fl : List Fa} {l0 l1 l2 l3 : Int}
theorem anC_bounds (c : Ca) : 0 ≤ anC a ts fl l0 l1 l2 l3 c ∧ anC a ts fl l0 l1 l2 l3 c ≤ 2 := holdsV_bounds ..
theorem anC_two {c : Ca} : anC a ts fl l0 l1 l2 l3 c = 2 ↔ ¬ ltQ (1, 1) (qL (ldF a ts fl l0 l1 l2 l3 c)) := by
  unfold anC
  rw [holdsV_two]
  show _ ↔ ¬ (1 * (liF l0 l1 l2 l3 c * pkD (faF fl c) * pkD (faF fl c)) < unF a ts c * pkN (faF fl c) * pkN (faF fl c) * 1)
  rw [Int.one_mul, Int.mul_one, Int.mul_assoc, Int.mul_assoc]
theorem worst_two (h : DOK a ts lo hi fl l0 l1 l2 l3) (hw : anC a ts fl l0 l1 l2 l3 (worstC a ts lo hi fl l0 l1 l2 l3) = 2) : ∀ c ∈ casL ts.length lo hi fl.length, anC a ts fl l0 l1 l2 l3 c = 2 := by
  intro c hc
  have hm := worstC_max a ts lo hi fl l0 l1 l2 l3 h c hc
  have hwm := worstC_mem a ts lo hi fl l0 l1 l2 l3 h
  have hcm := casL_mem.1 hc
  unfold ltC at hm
  rw [rC_eq a ts lo hi fl l0 l1 l2 l3 h hwm, rC_eq a ts lo hi fl l0 l1 l2 l3 h hcm] at hm
  have hm : ¬ ltQ _ _ := of_decide_eq_false hm
  rw [anC_two] at hw ⊢
  have pos : ∀ c, CaOK ts.length lo hi fl.length c → posQ (qL (ldF a ts fl l0 l1 l2 l3 c)) := fun c hc => by
    have h1 := (pkD_pos (h.flt' hc)).1
    have h2 := (h.lim c).1
    exact Int.mul_pos (Int.mul_pos (show 0 < liF l0 l1 l2 l3 c by omega) h1) h1
  exact le_trans' (pos c hcm) (pos _ hwm) (show (0 : Int) < 1 by decide) hm hw
theorem ws_bounds (h : DOK a ts lo hi fl l0 l1 l2 l3) : (0 ≤ wsV a ts lo hi fl l0 l1 l2 l3 ∧ wsV a ts lo hi fl l0 l1 l2 l3 ≤ 2) ∧ ∀ c, CaOK ts.length lo hi fl.length c → wsV a ts lo hi fl l0 l1 l2 l3 ≤ anC a ts fl l0 l1 l2 l3 c := by
  obtain ⟨h1, h2⟩ := leastF_le (anC a ts fl l0 l1 l2 l3) (casL ts.length lo hi fl.length) 2
  refine ⟨⟨?_, h1⟩, fun c hc => h2 c (casL_mem.2 hc)⟩
  rcases leastF_mem (anC a ts fl l0 l1 l2 l3) (casL ts.length lo hi fl.length) 2 with e | ⟨x, hx, e⟩
  · unfold wsV; rw [e]; decide
  · unfold wsV; rw [e]; exact (anC_bounds x).1
theorem ws_two (h : DOK a ts lo hi fl l0 l1 l2 l3) : wsV a ts lo hi fl l0 l1 l2 l3 = 2 ↔ anC a ts fl l0 l1 l2 l3 (worstC a ts lo hi fl l0 l1 l2 l3) = 2 := by
  constructor
  · intro e
    have := (ws_bounds h).2 _ (worstC_mem a ts lo hi fl l0 l1 l2 l3 h)
    have := anC_bounds (a := a) (ts := ts) (fl := fl) (l0 := l0) (l1 := l1) (l2 := l2) (l3 := l3) (worstC a ts lo hi fl l0 l1 l2 l3)
    omega
  · intro e
    have hall := worst_two h e
    rcases leastF_mem (anC a ts fl l0 l1 l2 l3) (casL ts.length lo hi fl.length) 2 with e | ⟨x, hx, e⟩
    · exact e
    · unfold wsV; rw [e]; exact hall x hx
theorem liF_two (c : Ca) : liF (2 * l0) (2 * l1) (2 * l2) (2 * l3) c = 2 * liF l0 l1 l2 l3 c := by
  unfold liF
  (repeat' split) <;> rfl
theorem ltC_two : ltC a ts fl (2 * l0) (2 * l1) (2 * l2) (2 * l3) = ltC a ts fl l0 l1 l2 l3 := by
  have e1 : ∀ c, qL (ldF a ts fl (2 * l0) (2 * l1) (2 * l2) (2 * l3) c) = ((qL (ldF a ts fl l0 l1 l2 l3 c)).1, 2 * (qL (ldF a ts fl l0 l1 l2 l3 c)).2) := by
    intro c
    unfold qL
    simp only [liF_two, Int.mul_assoc]
  funext c d
  unfold ltC rC
  simp only [e1]
  generalize qL (ldF a ts fl l0 l1 l2 l3 c) = x
  generalize qL (ldF a ts fl l0 l1 l2 l3 d) = y
  obtain ⟨x1, x2⟩ := x
  obtain ⟨y1, y2⟩ := y
  simp only
  have k1 : (0 < 2 * x2) ↔ 0 < x2 := by omega
  have k2 : (0 < 2 * y2) ↔ 0 < y2 := by omega
  simp only [k1, k2]
  have m1 : x1 * (2 * y2) = 2 * (x1 * y2) := by rw [Int.mul_left_comm]
  have m2 : y1 * (2 * x2) = 2 * (y1 * x2) := by rw [Int.mul_left_comm]
  by_cases p : 0 < x2 <;> by_cases q : 0 < y2
  · simp only [if_pos p, if_pos q]
    apply decide_eq_decide.2
    unfold ltQ
    simp only
    rw [m1, m2]; omega
  · simp only [if_pos p, if_neg q]
    apply decide_eq_decide.2
    unfold ltQ
    simp
  · simp only [if_neg p, if_pos q]
    apply decide_eq_decide.2
    unfold ltQ
    simp
  · simp only [if_neg p, if_neg q]
theorem worstC_two : worstC a ts lo hi fl (2 * l0) (2 * l1) (2 * l2) (2 * l3) = worstC a ts lo hi fl l0 l1 l2 l3 := by
  unfold worstC
  rw [ltC_two]
theorem anC_mono (h : DOK a ts lo hi fl l0 l1 l2 l3) {c : Ca} (hc : CaOK ts.length lo hi fl.length c) : anC a ts fl l0 l1 l2 l3 c ≤ anC a ts fl (2 * l0) (2 * l1) (2 * l2) (2 * l3) c := by
  obtain ⟨_, _, _, _⟩ := pk_bounds (h.flt' hc)
  have hl := h.lim c
  unfold anC
  rw [liF_two]
  generalize liF l0 l1 l2 l3 c = n at *
  have s1 : 0 ≤ pkB (faF fl c) * pkB (faF fl c) := Int.mul_nonneg (by omega) (by omega)
  have s2 : 0 ≤ pkD (faF fl c) * pkD (faF fl c) := Int.mul_nonneg (by omega) (by omega)
  unfold holdsV
  generalize pkB (faF fl c) * pkB (faF fl c) = B at *
  generalize pkD (faF fl c) * pkD (faF fl c) = D at *
  have t1 : 0 ≤ n * B := Int.mul_nonneg (by omega) s1
  have t2 : 0 ≤ n * D := Int.mul_nonneg (by omega) s2
  have e1 : 2 * n * B = 2 * (n * B) := Int.mul_assoc ..
  have e2 : 2 * n * D = 2 * (n * D) := Int.mul_assoc ..
  rw [e1, e2]
  (repeat' split) <;> omega
theorem wsV_mono (h : DOK a ts lo hi fl l0 l1 l2 l3) : wsV a ts lo hi fl l0 l1 l2 l3 ≤ wsV a ts lo hi fl (2 * l0) (2 * l1) (2 * l2) (2 * l3) :=
  leastF_mono (fun _ hc => anC_mono h (casL_mem.1 hc)) 2
theorem DOK.two (h : DOK a ts lo hi fl l0 l1 l2 l3) (h0 : 2 * l0 ≤ 100000000) (h1 : 2 * l1 ≤ 100000000) (h2 : 2 * l2 ≤ 100000000) (h3 : 2 * l3 ≤ 100000000) : DOK a ts lo hi fl (2 * l0) (2 * l1) (2 * l2) (2 * l3) :=
  ⟨h.t0, h.t4, h.a12, h.win, h.lo3, h.hi3, h.le, h.f0, h.f4, h.flt, by have := h.b0; omega, by have := h.b1; omega, by have := h.b2; omega, by have := h.b3; omega⟩
theorem DOK.err (h : DOK a ts lo hi fl l0 l1 l2 l3) : dErr a ts lo hi fl l0 l1 l2 l3 = 0 := by
  have z : ∀ {α : Type} {f : α → Int} {l : List α}, (∀ x ∈ l, f x = 0) → fs (l.map f) = 0 := by
    intro α f l h
    induction l with
    | nil => rfl
    | cons y l ih =>
      rw [List.map_cons]
      unfold fs
      rw [if_neg (by rw [h y List.mem_cons_self]; decide)]
      exact ih fun x hx => h x (List.mem_cons_of_mem _ hx)
  have e1 : dErr1 a ts = 0 := by unfold dErr1; rw [if_pos h.t0, if_pos ⟨h.t4, h.a12⟩]
  have e2 : tErr a ts = 0 := z h.win
  have e3 : dErr2 lo hi fl = 0 := by unfold dErr2; rw [if_pos (allIn2.2 ⟨h.lo3, h.hi3⟩), if_pos h.le, if_pos h.f0, if_pos h.f4]
  have e4 : aErr fl = 0 := z h.flt
  unfold dErr
  rw [e1, e2, e3, e4, if_pos (allIn4.2 ⟨h.b0, h.b1, h.b2, h.b3⟩)]
  rfl
end
end Go.Proofs.Tryd

namespace Go.Proofs.Tryd
open Go.Fw Go.IntWalk Go.Plain
set_option maxRecDepth 100000
set_option maxHeartbeats 16000000
section
variable (a : List Int) (ts : List (List Int)) (lo hi : Int) (fl : List Fa) (l0 l1 l2 l3 : Int)
theorem lim_get (k : Nat) (hk : k < 4) (t s f : Int) : ∀ off, off = 5 + k → ([.st (.ints a), .st (.view (ts.map fun t => [.ints t])), .st (J lo), .st (J hi), .st (.view (fl.map fcs)), .st (J l0), .st (J l1), .st (J l2), .st (J l3)] : List DC)[off]? = some (.st (J (liF l0 l1 l2 l3 ((k : Int), t, s, f)))) := by
  rintro off rfl
  match k, hk with
  | 0, _ => rfl
  | 1, _ => rfl
  | 2, _ => rfl
  | 3, _ => rfl
theorem holdsAtC_sat (h : DOK a ts lo hi fl l0 l1 l2 l3) {c : Ca} (hc : CaOK ts.length lo hi fl.length c) : Sat cx.P cx.gl 27 [(true, fcs (faF fl c)), I (unF a ts c), I (liF l0 l1 l2 l3 c)] (.tup [I (anC a ts fl l0 l1 l2 l3 c), I 0]) := by
  have hf := h.flt' hc
  have hu : 0 ≤ unF a ts c ∧ unF a ts c ≤ 9000000 := un_bounds (h.vw hc).2
  have hl := h.lim c
  obtain ⟨_, _, _, _, h5, h6, _⟩ := faultErr_zero hf
  have g := holdsAt_sat (faF fl c).1 (faF fl c).2.1 (faF fl c).2.2.1 (faF fl c).2.2.2.1 (faF fl c).2.2.2.2.1 (faF fl c).2.2.2.2.2 (unF a ts c) (liF l0 l1 l2 l3 c) ⟨by omega, by omega⟩ ⟨by omega, by omega⟩
  have e : askErr (faF fl c).1 (faF fl c).2.1 (faF fl c).2.2.1 (faF fl c).2.2.2.1 (faF fl c).2.2.2.2.1 (faF fl c).2.2.2.2.2 (unF a ts c) (liF l0 l1 l2 l3 c) = 0 := by
    unfold askErr
    rw [if_neg (fun hn => hn hf), if_pos (by omega), if_pos hl]
  rw [if_pos e] at g
  exact g
theorem forceNoWorse_sat (c : Ca) (ha : a.length ≤ maxLen) (ht : ∀ t ∈ ts, t.length ≤ maxLen) (hT : ts.length ≤ maxLen) (hF : fl.length ≤ maxLen) (hf : ∀ f ∈ fl, inI f.2.2.2.2.1 ∧ inI f.2.2.2.2.2) :
    Sat cx.P cx.gl 4 [Ds a ts lo hi fl l0 l1 l2 l3, CaX c] (.one (Bo true)) := by
  have fd := fewDesign_sat a ts lo hi fl l0 l1 l2 l3 hT hF ha
  have de := refDesignErr_sat a ts lo hi fl l0 l1 l2 l3 ha ht hT hF hf
  have od := openDesign_sat a ts lo hi fl l0 l1 l2 l3 ha ht hT hF hf
  by_cases hfew : ((a.length ≤ 17 ∧ ts.length ≤ 6 ∧ fl.length ≤ 6) ∧ ∀ t ∈ ts, t.length ≤ 17)
  case neg =>
    rw [decide_eq_false hfew] at fd
    obtain ⟨k, t, s, f⟩ := c
    show Sat _ _ _ [_, (true, [J k, J t, J s, J f])] _
    refine Sat_of_awp (fn := f4) cx_ok (by kernel_rfl) (by kernel_rfl) rfl (by kernel_rfl) (Nat.le_of_ble_eq_true rfl) ?_
    repeat ((first | refine oP rfl ?_ | refine rP rfl (fun _ z => z) ?_ | (refine kO 2 rfl ?_; refine rG (fun _ z => z) ?_) | (refine kO 3 rfl ?_; refine rG (fun _ z => z) ?_) | (refine kO 7 rfl ?_; first | refine rG (fun _ z => ⟨_, awake_sat, z⟩) ?_ | refine rG (fun _ z => ⟨_, fd, z⟩) ?_) | refine oN ?_ | refine aS ?_ | refine aR ?_ | refine aK ?_ | refine aT ?_ | refine aC rfl ?_ | refine bT ?_ | refine bF ?_ | refine oZ rfl rfl rfl ?_); (try conv => whnf))
    (done)
  rw [decide_eq_true hfew] at fd
  by_cases hde : dErr a ts lo hi fl l0 l1 l2 l3 = 0
  case neg =>
    obtain ⟨k, t, s, f⟩ := c
    show Sat _ _ _ [_, (true, [J k, J t, J s, J f])] _
    refine Sat_of_awp (fn := f4) cx_ok (by kernel_rfl) (by kernel_rfl) rfl (by kernel_rfl) (Nat.le_of_ble_eq_true rfl) ?_
    repeat ((first | refine oP rfl ?_ | refine rP rfl (fun _ z => z) ?_ | (refine kO 1 rfl ?_; refine rG (fun _ z => z) ?_) | (refine kO 2 rfl ?_; refine rG (fun _ z => z) ?_) | (refine kO 3 rfl ?_; refine rG (fun _ z => z) ?_) | (refine kO 7 rfl ?_; first | refine rG (fun _ z => ⟨_, awake_sat, z⟩) ?_ | refine rG (fun _ z => ⟨_, fd, z⟩) ?_ | refine rG (fun _ z => ⟨_, de, z⟩) ?_) | refine oN ?_ | refine aS ?_ | refine aR ?_ | refine aK ?_ | refine aT ?_ | refine aC rfl ?_ | refine bF ?_ | refine bPt (by omega) ?_ | refine oY rfl rfl rfl ?_); (try conv => whnf))
    (done)
  rw [hde] at de od
  have h := dErr_ok hde
  have hll := hfew.1
  have hlt : ∀ t ∈ ts, t.length ≤ 1000000 := fun t hm => Nat.le_trans (hfew.2 t hm) (by decide)
  have cp := copyDesign_sat a ts lo hi fl l0 l1 l2 l3 (by omega) (by omega) hlt (by omega)
  have wo := worstOf_sat a ts lo hi fl l0 l1 l2 l3 h od
  have hwm := worstC_mem a ts lo hi fl l0 l1 l2 l3 h
  have ce := refCaseErr_sat a ts lo hi fl l0 l1 l2 l3 (worstC a ts lo hi fl l0 l1 l2 l3) (by omega) (by omega)
  rw [cErr_zero.2 hwm] at ce
  have cw := checkWorst_sat a ts lo hi fl l0 l1 l2 l3 h _ hwm od
  have hnone : worseC a ts lo hi fl l0 l1 l2 l3 (worstC a ts lo hi fl l0 l1 l2 l3) = none := by
    unfold worseC
    exact List.find?_eq_none.2 fun d hd => by rw [worstC_max a ts lo hi fl l0 l1 l2 l3 h d hd]; decide
  have e : chk a ts lo hi fl l0 l1 l2 l3 (worstC a ts lo hi fl l0 l1 l2 l3) = ((0, 0, 0, 0), 0) := by unfold chk; rw [hnone]
  rw [e] at cw
  have part : ∀ c, CaOK ts.length lo hi fl.length c → Sat cx.P cx.gl 23 [Ds a ts lo hi fl l0 l1 l2 l3, CaX c] (.tup [W2 (shI a c.2.2.1) (shO (tapF ts c) c.2.2.1), I 0]) ∧ Sat cx.P cx.gl 24 [W2 (shI a c.2.2.1) (shO (tapF ts c) c.2.2.1)] (.one (I 0)) ∧
      Sat cx.P cx.gl 25 [W2 (shI a c.2.2.1) (shO (tapF ts c) c.2.2.1), I c.1] (.tup [I (unF a ts c), I 0]) ∧ Sat cx.P cx.gl 26 [I (unF a ts c)] (.one (I 0)) := by
    intro c hc
    have hv := (h.vw hc).2
    have hv1 := hv.le
    have hv2 := hv.len
    have w0 := windowErr_zero.2 hv
    have g1 := windowErr_sat _ _ (show (shI a c.2.2.1).length ≤ maxLen by unfold maxLen; omega) (show (shO (tapF ts c) c.2.2.1).length ≤ maxLen by unfold maxLen; omega)
    rw [w0] at g1
    have g2 := unitOf_sat _ _ c.1 (show (shI a c.2.2.1).length ≤ maxLen by unfold maxLen; omega) (show (shO (tapF ts c) c.2.2.1).length ≤ maxLen by unfold maxLen; omega)
    rw [if_pos (show uErr _ _ c.1 = 0 by unfold uErr; rw [if_neg (by omega), if_pos hc.1])] at g2
    have g3 := unitErr15_sat (unF a ts c)
    have hu : 0 ≤ unF a ts c ∧ unF a ts c ≤ 9000000 := un_bounds hv
    rw [if_pos (by omega)] at g3
    exact ⟨windowOf_sat a ts lo hi fl l0 l1 l2 l3 h c hc od, g1, g2, g3⟩
  obtain ⟨wi, we, un, ue⟩ := part _ hwm
  have ho := holdsAtC_sat a ts lo hi fl l0 l1 l2 l3 h hwm
  have ws := withstandsF_sat a ts lo hi fl l0 l1 l2 l3 h od
  obtain ⟨⟨wb1, wb2⟩, wb3⟩ := ws_bounds h
  have wt := ws_two h
  have wmin := wb3 _ hwm
  have wan := anC_bounds (a := a) (ts := ts) (fl := fl) (l0 := l0) (l1 := l1) (l2 := l2) (l3 := l3) (worstC a ts lo hi fl l0 l1 l2 l3)
  have ce2 := refCaseErr_sat a ts lo hi fl l0 l1 l2 l3 c (by omega) (by omega)
  have hwC := hwm
  obtain ⟨⟨k1, k2⟩, ⟨t1, t2⟩, ⟨s1, s2⟩, ⟨f1, f2⟩⟩ := hwm
  generalize anC a ts fl l0 l1 l2 l3 (worstC a ts lo hi fl l0 l1 l2 l3) = A at *
  generalize hWC : worstC a ts lo hi fl l0 l1 l2 l3 = x at *
  obtain ⟨k, t, s, f⟩ := x
  simp only at k1 k2 t1 t2 s1 s2 f1 f2
  obtain ⟨kn, rfl⟩ : ∃ n : Nat, k = n := ⟨k.toNat, by omega⟩
  obtain ⟨fn, rfl⟩ : ∃ n : Nat, f = n := ⟨f.toNat, by omega⟩
  have hfg := fault_get (fl := fl) (f := fn) (by omega)
  have hlg := lim_get a ts lo hi fl l0 l1 l2 l3 kn (by omega) t s fn
  have hfa : faF fl ((kn : Int), t, s, (fn : Int)) = fl.getD fn (0, 0, 0, 0, 0, 0) := rfl
  generalize liF l0 l1 l2 l3 ((kn : Int), t, s, (fn : Int)) = LK at *
  generalize hUK : unF a ts ((kn : Int), t, s, (fn : Int)) = UK at *
  generalize hWs : wsV a ts lo hi fl l0 l1 l2 l3 = B at *
  have hD := h
  clear h
  have mono := wsV_mono hD
  have easy : (2 * l0 ≤ 100000000 ∧ 2 * l1 ≤ 100000000 ∧ 2 * l2 ≤ 100000000 ∧ 2 * l3 ≤ 100000000) → Sat cx.P cx.gl 10 [Ds a ts lo hi fl (2 * l0) (2 * l1) (2 * l2) (2 * l3)] (.tup [CaX ((kn : Int), t, s, (fn : Int)), I 0]) ∧ Sat cx.P cx.gl 8 [Ds a ts lo hi fl (2 * l0) (2 * l1) (2 * l2) (2 * l3)] (.tup [I (wsV a ts lo hi fl (2 * l0) (2 * l1) (2 * l2) (2 * l3)), I 0]) := by
    rintro ⟨e0, e1, e2, e3⟩
    have h2 := hD.two e0 e1 e2 e3
    have od2 := openDesign_sat a ts lo hi fl (2 * l0) (2 * l1) (2 * l2) (2 * l3) ha ht hT hF hf
    rw [h2.err] at od2
    have w2 := worstOf_sat a ts lo hi fl (2 * l0) (2 * l1) (2 * l2) (2 * l3) h2 od2
    rw [worstC_two, hWC] at w2
    exact ⟨w2, withstandsF_sat a ts lo hi fl (2 * l0) (2 * l1) (2 * l2) (2 * l3) h2 od2⟩
  have cp2 := copyDesign_sat a ts lo hi fl (2 * l0) (2 * l1) (2 * l2) (2 * l3) (by omega) (by omega) hlt (by omega)
  have bl0 := hD.b0
  have bl1 := hD.b1
  have bl2 := hD.b2
  have bl3 := hD.b3
  rw [hWs] at mono
  generalize wsV a ts lo hi fl (2 * l0) (2 * l1) (2 * l2) (2 * l3) = B2 at *
  obtain ⟨k', t', s', f'⟩ := c
  show Sat _ _ _ [_, (true, [J k', J t', J s', J f'])] _
  refine Sat_of_awp (fn := f4) cx_ok (by kernel_rfl) (by kernel_rfl) rfl (by kernel_rfl) (Nat.le_of_ble_eq_true rfl) ?_
  repeat ((first | refine oP rfl ?_ | refine rP rfl (fun _ z => z) ?_ | (refine kO 1 rfl ?_; refine rG (fun _ z => z) ?_) | (refine kO 2 rfl ?_; refine rG (fun _ z => z) ?_) | (refine kO 3 rfl ?_; first | refine rLdb rfl rfl rfl rfl rfl rfl rfl ?_ | refine rG (fun _ z => z) ?_) | (refine kO 4 rfl ?_; refine rG (fun _ z => z) ?_) | (refine kO 5 rfl ?_; refine rIdvN rfl rfl rfl rfl rfl rfl (by assumption) rfl ?_) | (refine kO 7 rfl ?_; first | refine rG (fun _ z => ⟨_, awake_sat, z⟩) ?_ | refine rG (fun _ z => ⟨_, fd, z⟩) ?_ | refine rG (fun _ z => ⟨_, de, z⟩) ?_ | refine rG (fun _ z => ⟨_, cp, z⟩) ?_ | refine rG (fun _ z => ⟨_, wo, z⟩) ?_ | refine rG (fun _ z => ⟨_, ce, z⟩) ?_ | refine rG (fun _ z => ⟨_, cw, z⟩) ?_ | refine rG (fun _ z => ⟨_, wi, z⟩) ?_ | refine rG (fun _ z => ⟨_, we, z⟩) ?_ | refine rG (fun _ z => ⟨_, un, z⟩) ?_ | refine rG (fun _ z => ⟨_, ue, z⟩) ?_) | refine oN ?_ | refine aS ?_ | refine aR ?_ | refine aK ?_ | refine aC rfl ?_ | refine bF ?_ | refine oY rfl rfl rfl ?_ | refine dI (by kernel_rfl) ?_ | refine rG (fun _ z => ⟨(by (omega)), z⟩) ?_); (try conv => whnf))
  refine rLdb rfl rfl rfl rfl rfl rfl (hlg _ (by (simp; done))) ?_
  (try conv => whnf)
  repeat ((first | refine oP rfl ?_ | refine rP rfl (fun _ z => z) ?_ | (refine kO 7 rfl ?_; refine rG (fun _ z => ⟨_, ho, z⟩) ?_) | refine oN ?_ | refine dI (by kernel_rfl) ?_); (try conv => whnf))
  refine aS ?_; (refine aR ?_; conv => whnf); repeat ((first | refine oP rfl ?_ | refine rP rfl (fun _ z => z) ?_ | (refine kO 3 rfl ?_; refine rG (fun _ z => z) ?_) | (refine kO 7 rfl ?_; first | refine rG (fun _ z => ⟨_, cp, z⟩) ?_ | refine rG (fun _ z => ⟨_, ws, z⟩) ?_) | refine oN ?_); (try conv => whnf))
  refine awp_cut (ι := Unit) (fun _ => True) (fun _ => ⟨[(2, pP 0), (3, pP 1), (5, pP 2), (15, vI B)], [(0, bDs a ts lo hi fl l0 l1 l2 l3 29), (1, some (.box 38 [.st (J k'), .st (J t'), .st (J s'), .st (J f')])), (2, some (.box 38 [.st (J (kn : Int)), .st (J t), .st (J s), .st (J (fn : Int))]))], 3⟩) ?_ (fun _ _ => ?_)
  · repeat ((first | refine oP rfl ?_ | refine rP rfl (fun _ z => z) ?_ | (refine kO 1 rfl ?_; refine rG (fun _ z => z) ?_) | refine aS ?_ | refine aR ?_ | refine oY rfl rfl rfl ?_); (try conv => whnf))
    ((refine opsA_unlessp rfl rfl rfl (fun h => ?_) (fun h => ?_)) <;> (try conv => whnf))
    · exfalso
      apply h
      by_cases hA : A = 2
      · rw [hA, wt.2 hA]; decide
      · have hB : B ≠ 2 := fun hb => hA (wt.1 hb)
        rw [show (A == 2) = false by simpa using hA, show (B == 2) = false by simpa using hB]; decide
    clear h
    by_cases hA0 : A = 0
    all_goals
      repeat ((first | refine oP rfl ?_ | refine rP rfl (fun _ z => z) ?_ | (refine kO 1 rfl ?_; refine rG (fun _ z => z) ?_) | refine oN ?_ | refine aK ?_ | refine aC rfl ?_ | refine bF ?_ | refine bPf (by omega) ?_ | refine oY rfl rfl rfl ?_ | refine oZ rfl rfl rfl ?_ | refine oIt rfl rfl rfl (by omega) ?_ | refine oIf rfl rfl rfl (by omega) ?_); (try conv => whnf))
      exact ⟨(), trivial, canon_auto (by kernel_rfl)⟩
  · repeat ((first | refine oP rfl ?_ | (refine kO 1 rfl ?_; refine rG (fun _ z => z) ?_) | (refine kO 3 rfl ?_; refine rG (fun _ z => z) ?_) | (refine kO 7 rfl ?_; refine rG (fun _ z => ⟨_, ce2, z⟩) ?_) | refine oN ?_ | refine aS ?_ | refine aR ?_ | refine aC rfl ?_); (try conv => whnf))
    ((refine brp (fun h => ?_) (fun h => ?_)) <;> (try conv => whnf))
    · repeat ((first | refine oP rfl ?_ | refine rP rfl (fun _ z => z) ?_ | refine oN ?_ | refine aS ?_ | refine aR ?_ | refine aT ?_); (try conv => whnf))
      (done)
    have hc : CaOK ts.length lo hi fl.length (k', t', s', f') := cErr_zero.1 (by omega)
    obtain ⟨wi2, we2, un2, ue2⟩ := part _ hc
    have ho2 := holdsAtC_sat a ts lo hi fl l0 l1 l2 l3 hD hc
    have hB2 := wb3 _ hc
    obtain ⟨⟨k1', k2'⟩, ⟨t1', t2'⟩, ⟨s1', s2'⟩, ⟨f1', f2'⟩⟩ := hc
    simp only at k1' k2' t1' t2' s1' s2' f1' f2'
    obtain ⟨kn', rfl⟩ : ∃ n : Nat, k' = n := ⟨k'.toNat, by omega⟩
    obtain ⟨fn', rfl⟩ : ∃ n : Nat, f' = n := ⟨f'.toNat, by omega⟩
    have hfg' := fault_get (fl := fl) (f := fn') (by omega)
    have hlg' := lim_get a ts lo hi fl l0 l1 l2 l3 kn' (by omega) t' s' fn'
    generalize liF l0 l1 l2 l3 ((kn' : Int), t', s', (fn' : Int)) = LK' at *
    generalize hUK' : unF a ts ((kn' : Int), t', s', (fn' : Int)) = UK' at *
    generalize anC a ts fl l0 l1 l2 l3 ((kn' : Int), t', s', (fn' : Int)) = A' at *
    repeat ((first | refine oP rfl ?_ | refine rP rfl (fun _ z => z) ?_ | (refine kO 1 rfl ?_; refine rG (fun _ z => z) ?_) | (refine kO 3 rfl ?_; first | refine rLdb rfl rfl rfl rfl rfl rfl rfl ?_ | refine rG (fun _ z => z) ?_) | (refine kO 4 rfl ?_; refine rG (fun _ z => z) ?_) | (refine kO 5 rfl ?_; refine rIdvN rfl rfl rfl rfl rfl rfl (by assumption) rfl ?_) | (refine kO 7 rfl ?_; first | refine rG (fun _ z => ⟨_, cp, z⟩) ?_ | refine rG (fun _ z => ⟨_, wi2, z⟩) ?_ | refine rG (fun _ z => ⟨_, we2, z⟩) ?_ | refine rG (fun _ z => ⟨_, un2, z⟩) ?_ | refine rG (fun _ z => ⟨_, ue2, z⟩) ?_) | refine oN ?_ | refine aS ?_ | refine aR ?_ | refine aK ?_ | refine aC rfl ?_ | refine bF ?_ | refine oY rfl rfl rfl ?_ | refine dI (by kernel_rfl) ?_ | refine rG (fun _ z => ⟨(by (omega)), z⟩) ?_); (try conv => whnf))
    refine rLdb rfl rfl rfl rfl rfl rfl (hlg' _ (by (simp; done))) ?_
    (try conv => whnf)
    repeat ((first | refine oP rfl ?_ | refine rP rfl (fun _ z => z) ?_ | (refine kO 1 rfl ?_; refine rG (fun _ z => z) ?_) | (refine kO 3 rfl ?_; refine rG (fun _ z => z) ?_) | (refine kO 4 rfl ?_; refine rG (fun _ z => z) ?_) | (refine kO 7 rfl ?_; first | refine rG (fun _ z => ⟨_, cp, z⟩) ?_ | refine rG (fun _ z => ⟨_, ho2, z⟩) ?_) | refine oN ?_ | refine aS ?_ | refine aR ?_ | refine aK ?_ | refine aB ?_ | refine aC rfl ?_ | refine bPf (by omega) ?_ | refine aL ?_ | refine oY rfl rfl rfl ?_ | refine dI (by kernel_rfl) ?_); (try conv => whnf))
    by_cases e0 : 2 * l0 ≤ 100000000
    case neg =>
      refine loop_round ?_
      repeat ((first | refine oP rfl ?_ | refine rP rfl (fun _ z => z) ?_ | (refine kO 1 rfl ?_; first | refine rMul rfl rfl rfl (by omega) ?_ | refine rG (fun _ z => z) ?_) | (refine kO 3 rfl ?_; refine rLdb rfl rfl rfl rfl rfl rfl rfl ?_) | (refine kO 4 rfl ?_; refine rG (fun _ z => z) ?_) | refine oN ?_ | refine aS ?_ | refine aR ?_ | refine aK ?_ | refine aB ?_ | refine aT ?_ | refine aC rfl ?_ | refine bT ?_ | refine bPt (by omega) ?_ | refine rG (fun _ z => ⟨(by (omega)), z⟩) ?_); (try conv => whnf))
      (done)
    refine loop_round ?_
    repeat ((first | refine oP rfl ?_ | refine rP rfl (fun _ z => z) ?_ | (refine kO 1 rfl ?_; first | refine rAdd rfl rfl rfl (by omega) ?_ | refine rMul rfl rfl rfl (by omega) ?_ | refine rG (fun _ z => z) ?_) | (refine kO 3 rfl ?_; refine rLdb rfl rfl rfl rfl rfl rfl rfl ?_) | (refine kO 4 rfl ?_; refine rG (fun _ z => z) ?_) | refine oN ?_ | refine aS ?_ | refine aR ?_ | refine aK ?_ | refine aB ?_ | refine aC rfl ?_ | refine bT ?_ | refine bPf (by omega) ?_ | refine rG (fun _ z => ⟨(by (omega)), z⟩) ?_); (try conv => whnf))
    by_cases e1 : 2 * l1 ≤ 100000000
    case neg =>
      refine loop_round ?_
      repeat ((first | refine oP rfl ?_ | refine rP rfl (fun _ z => z) ?_ | (refine kO 1 rfl ?_; first | refine rMul rfl rfl rfl (by omega) ?_ | refine rG (fun _ z => z) ?_) | (refine kO 3 rfl ?_; refine rLdb rfl rfl rfl rfl rfl rfl rfl ?_) | (refine kO 4 rfl ?_; refine rG (fun _ z => z) ?_) | refine oN ?_ | refine aS ?_ | refine aR ?_ | refine aK ?_ | refine aB ?_ | refine aT ?_ | refine aC rfl ?_ | refine bT ?_ | refine bPt (by omega) ?_ | refine rG (fun _ z => ⟨(by (omega)), z⟩) ?_); (try conv => whnf))
      (done)
    refine loop_round ?_
    repeat ((first | refine oP rfl ?_ | refine rP rfl (fun _ z => z) ?_ | (refine kO 1 rfl ?_; first | refine rAdd rfl rfl rfl (by omega) ?_ | refine rMul rfl rfl rfl (by omega) ?_ | refine rG (fun _ z => z) ?_) | (refine kO 3 rfl ?_; refine rLdb rfl rfl rfl rfl rfl rfl rfl ?_) | (refine kO 4 rfl ?_; refine rG (fun _ z => z) ?_) | refine oN ?_ | refine aS ?_ | refine aR ?_ | refine aK ?_ | refine aB ?_ | refine aC rfl ?_ | refine bT ?_ | refine bPf (by omega) ?_ | refine rG (fun _ z => ⟨(by (omega)), z⟩) ?_); (try conv => whnf))
    by_cases e2 : 2 * l2 ≤ 100000000
    case neg =>
      refine loop_round ?_
      repeat ((first | refine oP rfl ?_ | refine rP rfl (fun _ z => z) ?_ | (refine kO 1 rfl ?_; first | refine rMul rfl rfl rfl (by omega) ?_ | refine rG (fun _ z => z) ?_) | (refine kO 3 rfl ?_; refine rLdb rfl rfl rfl rfl rfl rfl rfl ?_) | (refine kO 4 rfl ?_; refine rG (fun _ z => z) ?_) | refine oN ?_ | refine aS ?_ | refine aR ?_ | refine aK ?_ | refine aB ?_ | refine aT ?_ | refine aC rfl ?_ | refine bT ?_ | refine bPt (by omega) ?_ | refine rG (fun _ z => ⟨(by (omega)), z⟩) ?_); (try conv => whnf))
      (done)
    refine loop_round ?_
    repeat ((first | refine oP rfl ?_ | refine rP rfl (fun _ z => z) ?_ | (refine kO 1 rfl ?_; first | refine rAdd rfl rfl rfl (by omega) ?_ | refine rMul rfl rfl rfl (by omega) ?_ | refine rG (fun _ z => z) ?_) | (refine kO 3 rfl ?_; refine rLdb rfl rfl rfl rfl rfl rfl rfl ?_) | (refine kO 4 rfl ?_; refine rG (fun _ z => z) ?_) | refine oN ?_ | refine aS ?_ | refine aR ?_ | refine aK ?_ | refine aB ?_ | refine aC rfl ?_ | refine bT ?_ | refine bPf (by omega) ?_ | refine rG (fun _ z => ⟨(by (omega)), z⟩) ?_); (try conv => whnf))
    by_cases e3 : 2 * l3 ≤ 100000000
    case neg =>
      refine loop_round ?_
      repeat ((first | refine oP rfl ?_ | refine rP rfl (fun _ z => z) ?_ | (refine kO 1 rfl ?_; first | refine rMul rfl rfl rfl (by omega) ?_ | refine rG (fun _ z => z) ?_) | (refine kO 3 rfl ?_; refine rLdb rfl rfl rfl rfl rfl rfl rfl ?_) | (refine kO 4 rfl ?_; refine rG (fun _ z => z) ?_) | refine oN ?_ | refine aS ?_ | refine aR ?_ | refine aK ?_ | refine aB ?_ | refine aT ?_ | refine aC rfl ?_ | refine bT ?_ | refine bPt (by omega) ?_ | refine rG (fun _ z => ⟨(by (omega)), z⟩) ?_); (try conv => whnf))
      (done)
    refine loop_round ?_
    repeat ((first | refine oP rfl ?_ | refine rP rfl (fun _ z => z) ?_ | (refine kO 1 rfl ?_; first | refine rAdd rfl rfl rfl (by omega) ?_ | refine rMul rfl rfl rfl (by omega) ?_ | refine rG (fun _ z => z) ?_) | (refine kO 3 rfl ?_; refine rLdb rfl rfl rfl rfl rfl rfl rfl ?_) | (refine kO 4 rfl ?_; refine rG (fun _ z => z) ?_) | refine oN ?_ | refine aS ?_ | refine aR ?_ | refine aK ?_ | refine aB ?_ | refine aC rfl ?_ | refine bT ?_ | refine bPf (by omega) ?_ | refine rG (fun _ z => ⟨(by (omega)), z⟩) ?_); (try conv => whnf))
    obtain ⟨wo2, ws2⟩ := easy ⟨e0, e1, e2, e3⟩
    refine loop_round ?_
    repeat ((first | refine oP rfl ?_ | refine rP rfl (fun _ z => z) ?_ | (refine kO 1 rfl ?_; refine rG (fun _ z => z) ?_) | (refine kO 3 rfl ?_; refine rG (fun _ z => z) ?_) | (refine kO 4 rfl ?_; refine rG (fun _ z => z) ?_) | (refine kO 7 rfl ?_; first | refine rG (fun _ z => ⟨_, cp2, z⟩) ?_ | refine rG (fun _ z => ⟨_, wo2, z⟩) ?_ | refine rG (fun _ z => ⟨_, ws2, z⟩) ?_) | refine oN ?_ | refine aS ?_ | refine aR ?_ | refine aX ?_ | refine aC rfl ?_ | refine bF ?_ | refine oY rfl rfl rfl ?_); (try conv => whnf))
    ((refine opsA_ifp rfl rfl rfl (fun h => ?_) (fun h => ?_)) <;> (try conv => whnf))
    · repeat ((first | refine oP rfl ?_ | refine rP rfl (fun _ z => z) ?_ | (refine kO 1 rfl ?_; refine rG (fun _ z => z) ?_) | refine oN ?_ | refine aT ?_ | refine oY rfl rfl rfl ?_); (try conv => whnf))
      exact res_bo (decide_eq_true mono)
    · exfalso
      apply h
      simp
end
end Go.Proofs.Tryd
