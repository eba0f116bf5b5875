/- Parts of the proof, joined. -/
import Derived.Test.YtflcnhmckeiacaaGreatDoorYd
import Derived.Test.YtflcnhmckeiacaaGreatDoorWb
namespace Go.Proofs.Tryz
open Go.Fw Go.IntWalk Go.Plain
set_option maxRecDepth 100000
set_option maxHeartbeats 16000000
theorem best_step {α : Type} {lt : α → α → Bool} {C : List α} {c0 c : α} {i : Nat} (h1 : 1 ≤ i) (hc : C[i]? = some c) : best lt (C.take (i + 1)).tail c0 = if lt (best lt (C.take i).tail c0) c = true then c else best lt (C.take i).tail c0 := by
  have hi : i < C.length := (List.getElem?_eq_some_iff.1 hc).1
  rw [List.take_add_one, hc]
  have hne : C.take i ≠ [] := by
    intro e
    have := congrArg List.length e
    rw [List.length_take] at this
    simp only [List.length_nil] at this
    omega
  rw [List.tail_append_of_ne_nil hne]
  exact best_snoc _ _ _
theorem find_step {α : Type} {p : α → Bool} {C : List α} {c : α} {i : Nat} (hc : C[i]? = some c) (hno : ∀ x ∈ C.take i, p x = false) : (p c = true → C.find? p = some c) ∧ (p c = false → ∀ x ∈ C.take (i + 1), p x = false) := by
  constructor
  · intro h
    have e : C[i]'(List.getElem?_eq_some_iff.1 hc).1 = c := (List.getElem?_eq_some_iff.1 hc).2
    have hs : C = C.take i ++ c :: C.drop (i + 1) := by rw [← e]; simp
    rw [hs, List.find?_append, List.find?_eq_none.2 (fun x hx => by rw [hno x hx]; decide)]
    simp [h]
  · intro h x hx
    rw [List.take_add_one, hc] at hx
    rcases List.mem_append.1 hx with hx | hx
    · exact hno x hx
    · simp at hx; subst hx; exact h
theorem view_get {C : List Ca} {i : Nat} {k t s f : Int} (h : C[i]? = some (k, t, s, f)) : (C.map caC)[i]? = some [J k, J t, J s, J f] := by
  rw [List.getElem?_map, h]; rfl
section
variable (a : List Int) (ts : List (List Int)) (lo hi : Int) (fl : List Fa) (l0 l1 l2 l3 : Int)
theorem cas_small (h : DOK a ts lo hi fl l0 l1 l2 l3) : (casL ts.length lo hi fl.length).length ≤ 448 := by
  have := casK_len 4 ts.length lo (hi - lo + 1).toNat fl.length
  have b1 := h.t4; have b2 := h.f4; have b3 := h.lo3; have b4 := h.hi3
  have b5 : (hi - lo + 1).toNat * fl.length ≤ 7 * 4 := Nat.mul_le_mul (by omega) b2
  have b6 : ts.length * ((hi - lo + 1).toNat * fl.length) ≤ 4 * (7 * 4) := Nat.mul_le_mul b1 b5
  unfold casL
  omega
theorem refWorstOf_sat (h : DOK a ts lo hi fl l0 l1 l2 l3) : Sat cx.P cx.gl 18 [Ds a ts lo hi fl l0 l1 l2 l3] (.one (CaX (worstC a ts lo hi fl l0 l1 l2 l3))) := by
  have hcons := cas_cons a ts lo hi fl l0 l1 l2 l3 h
  have g0 := refCases_sat a ts lo hi fl l0 l1 l2 l3 (by have := h.t4; omega) (by have := h.f4; omega) h.lo3 h.hi3
  have hsm := cas_small a ts lo hi fl l0 l1 l2 l3 h
  have hmem : ∀ c ∈ casL ts.length lo hi fl.length, CaOK ts.length lo hi fl.length c := fun c hc => casL_mem.1 hc
  have hld := fun c hc => refLoad_sat a ts lo hi fl l0 l1 l2 l3 h c hc
  have hcp := fun c d hc hd => ld_cmp a ts lo hi fl l0 l1 l2 l3 h (c := c) (d := d) hc hd
  unfold worstC
  have hC0 : (casL ts.length lo hi fl.length)[0]? = some (0, 0, lo, 0) := by rw [hcons]; rfl
  generalize hT : casL ts.length lo hi fl.length = C at *
  have hV0 := view_get hC0
  have hVl : (C.map caC).length = C.length := List.length_map _
  have hVi : ∀ {i k t s f}, C[i]? = some (k, t, s, f) → (C.map caC)[i]? = some [J k, J t, J s, J f] := fun h => view_get h
  have hpos : 0 < C.length := (List.getElem?_eq_some_iff.1 hC0).1
  have h0 := hmem _ (List.mem_of_getElem? hC0)
  have g1 := hld _ h0
  have hb1 : best (ltC a ts fl l0 l1 l2 l3) (C.take 1).tail (0, 0, lo, 0) = (0, 0, lo, 0) := by
    rw [hcons]; rfl
  generalize C.map caC = V at *
  generalize ldF a ts fl l0 l1 l2 l3 = ld at *
  refine Sat_of_awp (fn := f18) cx_ok (by kernel_rfl) (by kernel_rfl) rfl (by kernel_rfl) (Nat.le_of_ble_eq_true rfl) ?_
  repeat ((first | refine oP rfl ?_ | refine rP rfl (fun _ z => z) ?_ | (refine kO 3 rfl ?_; first | refine rG (fun _ z => z) ?_ | refine rG (fun _ z => ⟨_, (by assumption), z⟩) ?_) | (refine kO 4 rfl ?_; refine rG (fun _ z => z) ?_) | (refine kO 5 rfl ?_; refine rIdoN rfl rfl rfl rfl rfl rfl rfl rfl (by (dsimp only [SC.len]; omega)) ?_) | (refine kO 7 rfl ?_; first | refine rG (fun _ z => ⟨_, g0, z⟩) ?_ | refine rG (fun _ z => ⟨_, g1, z⟩) ?_) | refine oN ?_ | refine aS ?_ | refine aR ?_ | refine aB ?_ | refine aL ?_ | refine dI (by kernel_rfl) ?_); (try conv => whnf))
  refine loop_ind (ι := Nat) (fun i => 1 ≤ i ∧ i ≤ C.length ∧ CaOK ts.length lo hi fl.length (best (ltC a ts fl l0 l1 l2 l3) (C.take i).tail (0, 0, lo, 0))) (fun i => C.length - i)
    (fun i => ⟨[(1, pP 0), (2, pP 1), (3, pO 2), (4, pP 3), (5, pP 4), (6, vI i)], [(0, bDs a ts lo hi fl l0 l1 l2 l3 29), (1, some (.box 31 [.st (J 0), .st (J 0), .st (J 0), .st (J 0)])), (2, some (.row true 4 (.view V))), (3, some (.box 31 [.st (J (best (ltC a ts fl l0 l1 l2 l3) (C.take i).tail (0, 0, lo, 0)).1), .st (J (best (ltC a ts fl l0 l1 l2 l3) (C.take i).tail (0, 0, lo, 0)).2.1), .st (J (best (ltC a ts fl l0 l1 l2 l3) (C.take i).tail (0, 0, lo, 0)).2.2.1), .st (J (best (ltC a ts fl l0 l1 l2 l3) (C.take i).tail (0, 0, lo, 0)).2.2.2)])),
      (4, some (.box 108 [.st (J (rdQ (ld (best (ltC a ts fl l0 l1 l2 l3) (C.take i).tail (0, 0, lo, 0)))).1.sign), .st (.ints (digs (rdQ (ld (best (ltC a ts fl l0 l1 l2 l3) (C.take i).tail (0, 0, lo, 0)))).1.natAbs)), .st (J (rdQ (ld (best (ltC a ts fl l0 l1 l2 l3) (C.take i).tail (0, 0, lo, 0)))).2.sign), .st (.ints (digs (rdQ (ld (best (ltC a ts fl l0 l1 l2 l3) (C.take i).tail (0, 0, lo, 0)))).2.natAbs))]))], 5⟩)
    1 (canon_auto (by rw [hb1]; kernel_rfl)) ⟨by omega, by omega, by rw [hb1]; exact h0⟩ ?_
  rintro i ⟨hi1, hi2, hbo⟩
  by_cases hlt : i < C.length
  case neg =>
    obtain rfl : i = C.length := by omega
    rw [List.take_length]
    generalize best (ltC a ts fl l0 l1 l2 l3) C.tail (0, 0, lo, 0) = b at *
    obtain ⟨k, t, s, f⟩ := b
    repeat ((first | refine oP rfl ?_ | refine rP rfl (fun _ z => z) ?_ | (refine kO 1 rfl ?_; refine rG (fun _ z => z) ?_) | (refine kO 3 rfl ?_; refine rG (fun _ z => z) ?_) | (refine kO 4 rfl ?_; refine rG (fun _ z => z) ?_) | (refine kO 6 rfl ?_; refine rLenov rfl rfl rfl rfl rfl rfl rfl ?_) | refine oN ?_ | refine aS ?_ | refine aR ?_ | refine aX ?_ | refine aT ?_ | refine aC rfl ?_ | refine bPf (by omega) ?_); (try conv => whnf))
    (rfl)
  obtain ⟨c, hc⟩ : ∃ c, C[i]? = some c := ⟨C[i], List.getElem?_eq_getElem hlt⟩
  have hstep := best_step (lt := ltC a ts fl l0 l1 l2 l3) (c0 := (0, 0, lo, 0)) hi1 hc
  have hco := hmem _ (List.mem_of_getElem? hc)
  have g2 := hld _ hco
  obtain ⟨g3, hiff⟩ := hcp _ _ hbo hco
  generalize hb : best (ltC a ts fl l0 l1 l2 l3) (C.take i).tail (0, 0, lo, 0) = b at *
  obtain ⟨k, t, s, f⟩ := c
  obtain ⟨k', t', s', f'⟩ := b
  have hv := hVi hc
  generalize rdS (ld (k, t, s, f)) (ld (k', t', s', f')) = z at *
  repeat ((first | refine oP rfl ?_ | refine rP rfl (fun _ z => z) ?_ | (refine kO 1 rfl ?_; refine rG (fun _ z => z) ?_) | (refine kO 3 rfl ?_; first | refine rG (fun _ z => z) ?_ | refine rG (fun _ z => ⟨_, (by assumption), z⟩) ?_) | (refine kO 4 rfl ?_; refine rG (fun _ z => z) ?_) | (refine kO 5 rfl ?_; refine rIdoN rfl rfl rfl rfl rfl rfl rfl rfl (by (dsimp only [SC.len]; omega)) ?_) | (refine kO 7 rfl ?_; first | refine rG (fun _ z => ⟨_, g2, z⟩) ?_ | refine rG (fun _ z => ⟨_, g3, z⟩) ?_) | (refine kO 6 rfl ?_; refine rLenov rfl rfl rfl rfl rfl rfl rfl ?_) | refine oN ?_ | refine aS ?_ | refine aR ?_ | refine aK ?_ | refine aB ?_ | refine aC rfl ?_ | refine bPt (by omega) ?_ | refine dI (by kernel_rfl) ?_); (try conv => whnf))
  ((refine brp (fun h => ?_) (fun h => ?_)) <;> (try conv => whnf))
  · repeat ((first | refine oP rfl ?_ | refine rP rfl (fun _ z => z) ?_ | (refine kO 1 rfl ?_; refine rAdd rfl rfl rfl (by omega) ?_) | (refine kO 3 rfl ?_; first | refine rG (fun _ z => z) ?_ | refine rG (fun _ z => ⟨_, (by assumption), z⟩) ?_) | (refine kO 4 rfl ?_; refine rG (fun _ z => z) ?_) | (refine kO 5 rfl ?_; refine rIdoN rfl rfl rfl rfl rfl rfl rfl rfl (by (dsimp only [SC.len]; omega)) ?_) | refine oN ?_ | refine aR ?_ | refine dI (by kernel_rfl) ?_); (try conv => whnf))
    have hlc : ltC a ts fl l0 l1 l2 l3 (k', t', s', f') (k, t, s, f) = true := hiff.2 (by omega)
    rw [if_pos hlc] at hstep
    exact ⟨i + 1, ⟨by omega, hlt, by rw [hstep]; exact hco⟩, by omega, canon_auto (by rw [hstep]; kernel_rfl)⟩
  · repeat ((first | refine oP rfl ?_ | refine rP rfl (fun _ z => z) ?_ | (refine kO 1 rfl ?_; refine rAdd rfl rfl rfl (by omega) ?_) | refine oN ?_ | refine aR ?_ | refine aK ?_); (try conv => whnf))
    have hlc : ¬ ltC a ts fl l0 l1 l2 l3 (k', t', s', f') (k, t, s, f) = true := fun hh => by have := hiff.1 hh; omega
    rw [if_neg hlc] at hstep
    exact ⟨i + 1, ⟨by omega, hlt, by rw [hstep]; exact hbo⟩, by omega, canon_auto (by rw [hstep]; kernel_rfl)⟩
theorem refCheckWorst_sat (h : DOK a ts lo hi fl l0 l1 l2 l3) (c0 : Ca) (hc0 : CaOK ts.length lo hi fl.length c0) :
    Sat cx.P cx.gl 19 [Ds a ts lo hi fl l0 l1 l2 l3, CaX c0] (.tup (match worseC a ts lo hi fl l0 l1 l2 l3 c0 with | some c => [CaX c, Bo true] | none => [CaX (0, 0, 0, 0), Bo false])) := by
  have g0 := refCases_sat a ts lo hi fl l0 l1 l2 l3 (by have := h.t4; omega) (by have := h.f4; omega) h.lo3 h.hi3
  have hsm := cas_small a ts lo hi fl l0 l1 l2 l3 h
  have hmem : ∀ c ∈ casL ts.length lo hi fl.length, CaOK ts.length lo hi fl.length c := fun c hc => casL_mem.1 hc
  have hld := fun c hc => refLoad_sat a ts lo hi fl l0 l1 l2 l3 h c hc
  have hcp := fun d hd => ld_cmp a ts lo hi fl l0 l1 l2 l3 h (c := c0) (d := d) hc0 hd
  have g1 := hld _ hc0
  unfold worseC
  generalize hT : casL ts.length lo hi fl.length = C at *
  have hVl : (C.map caC).length = C.length := List.length_map _
  have hVi : ∀ {i k t s f}, C[i]? = some (k, t, s, f) → (C.map caC)[i]? = some [J k, J t, J s, J f] := fun h => view_get h
  generalize C.map caC = V at *
  generalize ldF a ts fl l0 l1 l2 l3 = ld at *
  obtain ⟨k0, t0, s0, f0⟩ := c0
  show Sat _ _ _ [_, (true, [J k0, J t0, J s0, J f0])] _
  refine Sat_of_awp (fn := f19) cx_ok (by kernel_rfl) (by kernel_rfl) rfl (by kernel_rfl) (Nat.le_of_ble_eq_true rfl) ?_
  repeat ((first | refine oP rfl ?_ | refine rP rfl (fun _ z => z) ?_ | (refine kO 3 rfl ?_; refine rG (fun _ z => z) ?_) | (refine kO 4 rfl ?_; refine rG (fun _ z => z) ?_) | (refine kO 7 rfl ?_; first | refine rG (fun _ z => ⟨_, g0, z⟩) ?_ | refine rG (fun _ z => ⟨_, g1, z⟩) ?_) | refine oN ?_ | refine aS ?_ | refine aR ?_ | refine aB ?_ | refine aL ?_ | refine dI (by kernel_rfl) ?_); (try conv => whnf))
  refine loop_ind (ι := Nat) (fun i => i ≤ C.length ∧ ∀ x ∈ C.take i, ltC a ts fl l0 l1 l2 l3 (k0, t0, s0, f0) x = false) (fun i => C.length - i)
    (fun i => ⟨[(2, pP 0), (4, pP 1), (6, pO 2), (7, pP 3), (8, vI i)], [(0, bDs a ts lo hi fl l0 l1 l2 l3 29), (1, some (.box 31 [.st (J 0), .st (J 0), .st (J 0), .st (J 0)])), (2, some (.row true 4 (.view V))),
      (3, some (.box 108 [.st (J (rdQ (ld (k0, t0, s0, f0))).1.sign), .st (.ints (digs (rdQ (ld (k0, t0, s0, f0))).1.natAbs)), .st (J (rdQ (ld (k0, t0, s0, f0))).2.sign), .st (.ints (digs (rdQ (ld (k0, t0, s0, f0))).2.natAbs))]))], 4⟩)
    0 (canon_auto (by kernel_rfl)) ⟨Nat.zero_le _, by simp⟩ ?_
  rintro i ⟨hi2, hno⟩
  by_cases hlt : i < C.length
  case neg =>
    obtain rfl : i = C.length := by omega
    rw [List.take_length] at hno
    have hfd : C.find? (fun d => ltC a ts fl l0 l1 l2 l3 (k0, t0, s0, f0) d) = none := List.find?_eq_none.2 fun x hx => by rw [hno x hx]; decide
    rw [hfd]
    repeat ((first | refine oP rfl ?_ | refine rP rfl (fun _ z => z) ?_ | (refine kO 1 rfl ?_; refine rG (fun _ z => z) ?_) | (refine kO 4 rfl ?_; refine rG (fun _ z => z) ?_) | (refine kO 6 rfl ?_; refine rLenov rfl rfl rfl rfl rfl rfl rfl ?_) | refine oN ?_ | refine aS ?_ | refine aR ?_ | refine aX ?_ | refine aT ?_ | refine aC rfl ?_ | refine bPf (by omega) ?_); (try conv => whnf))
    (rfl)
  obtain ⟨c, hc⟩ : ∃ c, C[i]? = some c := ⟨C[i], List.getElem?_eq_getElem hlt⟩
  obtain ⟨hst1, hst2⟩ := find_step hc hno
  have hco := hmem _ (List.mem_of_getElem? hc)
  have g2 := hld _ hco
  obtain ⟨g3, hiff⟩ := hcp _ hco
  obtain ⟨k, t, s, f⟩ := c
  have hv := hVi hc
  generalize rdS (ld (k, t, s, f)) (ld (k0, t0, s0, f0)) = z at *
  repeat ((first | refine oP rfl ?_ | refine rP rfl (fun _ z => z) ?_ | (refine kO 1 rfl ?_; refine rG (fun _ z => z) ?_) | (refine kO 3 rfl ?_; first | refine rG (fun _ z => z) ?_ | refine rG (fun _ z => ⟨_, (by assumption), z⟩) ?_) | (refine kO 5 rfl ?_; refine rIdoN rfl rfl rfl rfl rfl rfl rfl rfl (by (dsimp only [SC.len]; omega)) ?_) | (refine kO 7 rfl ?_; first | refine rG (fun _ z => ⟨_, g2, z⟩) ?_ | refine rG (fun _ z => ⟨_, g3, z⟩) ?_) | (refine kO 6 rfl ?_; refine rLenov rfl rfl rfl rfl rfl rfl rfl ?_) | refine oN ?_ | refine aS ?_ | refine aR ?_ | refine aK ?_ | refine aB ?_ | refine aC rfl ?_ | refine bPt (by omega) ?_ | refine dI (by kernel_rfl) ?_); (try conv => whnf))
  ((refine brp (fun h => ?_) (fun h => ?_)) <;> (try conv => whnf))
  · rw [hst1 (hiff.2 (by omega))]
    repeat ((first | refine oP rfl ?_ | refine rP rfl (fun _ z => z) ?_ | (refine kO 3 rfl ?_; refine rG (fun _ z => ⟨_, (by assumption), z⟩) ?_) | (refine kO 4 rfl ?_; refine rG (fun _ z => z) ?_) | (refine kO 5 rfl ?_; refine rIdoN rfl rfl rfl rfl rfl rfl rfl rfl (by (dsimp only [SC.len]; omega)) ?_) | refine oN ?_ | refine aS ?_ | refine aR ?_ | refine aT ?_); (try conv => whnf))
    (rfl)
  · have hlc : ltC a ts fl l0 l1 l2 l3 (k0, t0, s0, f0) (k, t, s, f) = false := by
      cases hh : ltC a ts fl l0 l1 l2 l3 (k0, t0, s0, f0) (k, t, s, f) with
      | false => rfl
      | true => have := hiff.1 hh; omega
    repeat ((first | refine oP rfl ?_ | refine rP rfl (fun _ z => z) ?_ | (refine kO 1 rfl ?_; refine rAdd rfl rfl rfl (by omega) ?_) | refine oN ?_ | refine aR ?_ | refine aK ?_); (try conv => whnf))
    exact ⟨i + 1, ⟨hlt, hst2 hlc⟩, by omega, canon_auto (by kernel_rfl)⟩
theorem refWithstands_sat (h : DOK a ts lo hi fl l0 l1 l2 l3) : Sat cx.P cx.gl 13 [Ds a ts lo hi fl l0 l1 l2 l3] (.one (I (wsV a ts lo hi fl l0 l1 l2 l3))) := by
  have g0 := refCases_sat a ts lo hi fl l0 l1 l2 l3 (by have := h.t4; omega) (by have := h.f4; omega) h.lo3 h.hi3
  have hsm := cas_small a ts lo hi fl l0 l1 l2 l3 h
  have hmem : ∀ c ∈ casL ts.length lo hi fl.length, CaOK ts.length lo hi fl.length c := fun c hc => casL_mem.1 hc
  obtain ⟨⟨wb1, wb2⟩, wb3⟩ := ws_bounds h
  have hlb := fun c hc => load_lb a ts lo hi fl l0 l1 l2 l3 h (c := c) hc
  have g1 : ∀ c, CaOK ts.length lo hi fl.length c → Sat cx.P cx.gl 47 [(true, fcs (faF fl c)), I (unF a ts c), I (liF l0 l1 l2 l3 c)] (.one (I (anC a ts fl l0 l1 l2 l3 c))) := by
    intro c hc
    have hu := (hlb c hc).1
    simp only at hu
    exact refHoldsAt_sat (h.flt' hc) ⟨hu.1, by omega⟩ (h.lim c)
  have hab : ∀ c, 0 ≤ anC a ts fl l0 l1 l2 l3 c ∧ anC a ts fl l0 l1 l2 l3 c ≤ 2 := fun c => anC_bounds (a := a) (ts := ts) (fl := fl) (l0 := l0) (l1 := l1) (l2 := l2) (l3 := l3) c
  have hws : wsV a ts lo hi fl l0 l1 l2 l3 = leastF (anC a ts fl l0 l1 l2 l3) (casL ts.length lo hi fl.length) 2 := rfl
  generalize wsV a ts lo hi fl l0 l1 l2 l3 = B at *
  generalize anC a ts fl l0 l1 l2 l3 = an at *
  generalize hT : casL ts.length lo hi fl.length = C at *
  have hVl : (C.map caC).length = C.length := List.length_map _
  have hVi : ∀ {i k t s f}, C[i]? = some (k, t, s, f) → (C.map caC)[i]? = some [J k, J t, J s, J f] := fun h => view_get h
  generalize C.map caC = V at *
  refine Sat_of_awp (fn := f13) cx_ok (by kernel_rfl) (by kernel_rfl) rfl (by kernel_rfl) (Nat.le_of_ble_eq_true rfl) ?_
  repeat ((first | refine oP rfl ?_ | refine rP rfl (fun _ z => z) ?_ | (refine kO 3 rfl ?_; refine rG (fun _ z => z) ?_) | (refine kO 7 rfl ?_; refine rG (fun _ z => ⟨_, g0, z⟩) ?_) | refine oN ?_ | refine aS ?_ | refine aR ?_ | refine aB ?_ | refine aL ?_); (try conv => whnf))
  refine loop_ind (ι := Nat) (fun i => i ≤ C.length ∧ 1 ≤ leastF an (C.take i) 2 ∧ leastF an (C.take i) 2 ≤ 2) (fun i => C.length - i)
    (fun i => ⟨[(1, pP 0), (3, pO 1), (4, vI (leastF an (C.take i) 2)), (5, vI i)], [(0, bDs a ts lo hi fl l0 l1 l2 l3 29), (1, some (.row true 4 (.view V)))], 2⟩)
    0 (canon_auto (by kernel_rfl)) ⟨Nat.zero_le _, by show (1 : Int) ≤ 2; decide, by show (2 : Int) ≤ 2; decide⟩ ?_
  rintro i ⟨hi2, ho1, ho2⟩
  by_cases hlt : i < C.length
  case neg =>
    obtain rfl : i = C.length := by omega
    rw [List.take_length] at *
    rw [hws]
    repeat ((first | refine oP rfl ?_ | refine rP rfl (fun _ z => z) ?_ | (refine kO 1 rfl ?_; refine rG (fun _ z => z) ?_) | (refine kO 6 rfl ?_; refine rLenov rfl rfl rfl rfl rfl rfl rfl ?_) | refine oN ?_ | refine aS ?_ | refine aR ?_ | refine aX ?_ | refine aT ?_ | refine aC rfl ?_ | refine bPf (by omega) ?_); (try conv => whnf))
    (done)
  obtain ⟨c, hc⟩ : ∃ c, C[i]? = some c := ⟨C[i], List.getElem?_eq_getElem hlt⟩
  have hstep : leastF an (C.take (i + 1)) 2 = if an c < leastF an (C.take i) 2 then an c else leastF an (C.take i) 2 := by
    rw [List.take_add_one, hc]; exact leastF_snoc _ _ _ _
  have hco := hmem _ (List.mem_of_getElem? hc)
  have hbc := wb3 _ hco
  have hac := hab c
  have g2 := g1 _ hco
  have hv := h.vw hco
  have hl := hv.1.len
  have hle := hv.1.le
  have hlo := h.lo3
  have hhi := h.hi3
  obtain ⟨⟨k1, k2⟩, ⟨t1, t2⟩, ⟨s1, s2⟩, ⟨f1, f2⟩⟩ := hco
  obtain ⟨k, t, s, f⟩ := c
  simp only at k1 k2 t1 t2 s1 s2 f1 f2
  have hvi := hVi hc
  obtain ⟨tn, rfl⟩ : ∃ n : Nat, t = n := ⟨t.toNat, by omega⟩
  obtain ⟨fn, rfl⟩ : ∃ n : Nat, f = n := ⟨f.toNat, by omega⟩
  have g3 := refWindowC_sat a ts lo hi fl l0 l1 l2 l3 k tn s fn (by omega) (by omega) (by show (tapF ts (k, (tn : Int), s, (fn : Int))).length ≤ 20; omega) (by omega)
  have g4 := refUnit_sat _ _ k hv.2 (by omega)
  have hfg := fault_get (fl := fl) (f := fn) (by omega)
  generalize leastF an (C.take i) 2 = out at *
  generalize hA : an (k, (tn : Int), s, (fn : Int)) = A at *
  have hA3 : A = 0 ∨ A = 1 ∨ A = 2 := by omega
  have hfin : ∀ z : Int, ((A = 1 ∧ z = 1) ∨ (A = 2 ∧ z = out)) → leastF an (C.take (i + 1)) 2 = z := by
    rintro z (⟨h1, rfl⟩ | ⟨h1, rfl⟩)
    · rw [hstep]; split <;> omega
    · rw [hstep, if_neg (by omega)]
  have h4' : k = 0 ∨ k = 1 ∨ k = 2 ∨ k = 3 := by omega
  rcases h4' with rfl | rfl | rfl | rfl
  all_goals
    rcases hA3 with rfl | rfl | rfl
    · repeat ((first | refine oP rfl ?_ | refine rP rfl (fun _ z => z) ?_ | (refine kO 1 rfl ?_; refine rG (fun _ z => z) ?_) | (refine kO 3 rfl ?_; first | refine rLdb rfl rfl rfl rfl rfl rfl rfl ?_ | refine rG (fun _ z => z) ?_ | refine rG (fun _ z => ⟨_, (by assumption), z⟩) ?_) | (refine kO 4 rfl ?_; refine rG (fun _ z => z) ?_) | (refine kO 5 rfl ?_; first | refine rIdoN rfl rfl rfl rfl rfl rfl rfl rfl (by (dsimp only [SC.len]; omega)) ?_ | refine rIdvN rfl rfl rfl rfl rfl rfl (by assumption) rfl ?_) | (refine kO 7 rfl ?_; first | refine rG (fun _ z => ⟨_, g3, z⟩) ?_ | refine rG (fun _ z => ⟨_, g4, z⟩) ?_ | refine rG (fun _ z => ⟨_, g2, z⟩) ?_) | (refine kO 6 rfl ?_; refine rLenov rfl rfl rfl rfl rfl rfl rfl ?_) | refine oN ?_ | refine aS ?_ | refine aR ?_ | refine aK ?_ | refine aB ?_ | refine aT ?_ | refine aC rfl ?_ | refine bT ?_ | refine bPt (by omega) ?_ | refine dI (by kernel_rfl) ?_ | refine rG (fun _ z => ⟨(by (omega)), z⟩) ?_); (try conv => whnf))
      rw [show B = 0 by omega]
    · have hz := hfin 1 (.inl ⟨rfl, rfl⟩)
      repeat ((first | refine oP rfl ?_ | refine rP rfl (fun _ z => z) ?_ | (refine kO 1 rfl ?_; first | refine rAdd rfl rfl rfl (by omega) ?_ | refine rG (fun _ z => z) ?_) | (refine kO 3 rfl ?_; first | refine rLdb rfl rfl rfl rfl rfl rfl rfl ?_ | refine rG (fun _ z => z) ?_ | refine rG (fun _ z => ⟨_, (by assumption), z⟩) ?_) | (refine kO 4 rfl ?_; refine rG (fun _ z => z) ?_) | (refine kO 5 rfl ?_; first | refine rIdoN rfl rfl rfl rfl rfl rfl rfl rfl (by (dsimp only [SC.len]; omega)) ?_ | refine rIdvN rfl rfl rfl rfl rfl rfl (by assumption) rfl ?_) | (refine kO 7 rfl ?_; first | refine rG (fun _ z => ⟨_, g3, z⟩) ?_ | refine rG (fun _ z => ⟨_, g4, z⟩) ?_ | refine rG (fun _ z => ⟨_, g2, z⟩) ?_) | (refine kO 6 rfl ?_; refine rLenov rfl rfl rfl rfl rfl rfl rfl ?_) | refine oN ?_ | refine aS ?_ | refine aR ?_ | refine aK ?_ | refine aB ?_ | refine aC rfl ?_ | refine bT ?_ | refine bF ?_ | refine bPt (by omega) ?_ | refine dI (by kernel_rfl) ?_ | refine rG (fun _ z => ⟨(by (omega)), z⟩) ?_); (try conv => whnf))
      exact ⟨i + 1, ⟨hlt, by omega, by omega⟩, by omega, canon_auto (by rw [hz]; kernel_rfl)⟩
    · have hz := hfin out (.inr ⟨rfl, rfl⟩)
      repeat ((first | refine oP rfl ?_ | refine rP rfl (fun _ z => z) ?_ | (refine kO 1 rfl ?_; first | refine rAdd rfl rfl rfl (by omega) ?_ | refine rG (fun _ z => z) ?_) | (refine kO 3 rfl ?_; first | refine rLdb rfl rfl rfl rfl rfl rfl rfl ?_ | refine rG (fun _ z => z) ?_ | refine rG (fun _ z => ⟨_, (by assumption), z⟩) ?_) | (refine kO 4 rfl ?_; refine rG (fun _ z => z) ?_) | (refine kO 5 rfl ?_; first | refine rIdoN rfl rfl rfl rfl rfl rfl rfl rfl (by (dsimp only [SC.len]; omega)) ?_ | refine rIdvN rfl rfl rfl rfl rfl rfl (by assumption) rfl ?_) | (refine kO 7 rfl ?_; first | refine rG (fun _ z => ⟨_, g3, z⟩) ?_ | refine rG (fun _ z => ⟨_, g4, z⟩) ?_ | refine rG (fun _ z => ⟨_, g2, z⟩) ?_) | (refine kO 6 rfl ?_; refine rLenov rfl rfl rfl rfl rfl rfl rfl ?_) | refine oN ?_ | refine aS ?_ | refine aR ?_ | refine aK ?_ | refine aB ?_ | refine aC rfl ?_ | refine bF ?_ | refine bPt (by omega) ?_ | refine dI (by kernel_rfl) ?_ | refine rG (fun _ z => ⟨(by (omega)), z⟩) ?_); (try conv => whnf))
      exact ⟨i + 1, ⟨hlt, by omega, by omega⟩, by omega, canon_auto (by rw [hz]; kernel_rfl)⟩
end
end Go.Proofs.Tryz

namespace Go.Proofs.Tryz
open Go.Fw Go.IntWalk Go.Plain
set_option maxRecDepth 100000
set_option maxHeartbeats 16000000
section
variable (a : List Int) (ts : List (List Int)) (lo hi : Int) (fl : List Fa) (l0 l1 l2 l3 : Int)
theorem forceDesigns_sat (c : Ca) (ha : a.length ≤ maxLen) (ht : ∀ t ∈ ts, t.length ≤ maxLen) (hT : ts.length ≤ maxLen) (hF : fl.length ≤ maxLen) (hf : ∀ f ∈ fl, inI f.2.2.2.2.1 ∧ inI f.2.2.2.2.2) :
    Sat cx.P cx.gl 3 [Ds a ts lo hi fl l0 l1 l2 l3, CaX c] (.one (Bo true)) := by
  have fd := fewDesign_sat a ts lo hi fl l0 l1 l2 l3 hT hF ha
  have de := refDesignErr_sat a ts lo hi fl l0 l1 l2 l3 ha ht hT hF hf
  have od := openDesign_sat a ts lo hi fl l0 l1 l2 l3 ha ht hT hF hf
  have cd := checkDesign_sat a ts lo hi fl l0 l1 l2 l3 ha ht hT hF hf
  have sm0 := same_sat [] [] [] [] (by decide) (by decide)
  rw [decide_eq_true (⟨rfl, rfl⟩ : ([] : List Int) = [] ∧ ([] : List Int) = [])] at sm0
  by_cases hfew : ((a.length ≤ 17 ∧ ts.length ≤ 6 ∧ fl.length ≤ 6) ∧ ∀ t ∈ ts, t.length ≤ 17)
  case neg =>
    rw [decide_eq_false hfew] at fd
    obtain ⟨k, t, s, f⟩ := c
    show Sat _ _ _ [_, (true, [J k, J t, J s, J f])] _
    refine Sat_of_awp (fn := f3) cx_ok (by kernel_rfl) (by kernel_rfl) rfl (by kernel_rfl) (Nat.le_of_ble_eq_true rfl) ?_
    repeat ((first | refine oP rfl ?_ | refine rP rfl (fun _ z => z) ?_ | (refine kO 2 rfl ?_; refine rG (fun _ z => z) ?_) | (refine kO 3 rfl ?_; refine rG (fun _ z => z) ?_) | (refine kO 7 rfl ?_; first | refine rG (fun _ z => ⟨_, awake_sat, z⟩) ?_ | refine rG (fun _ z => ⟨_, fd, z⟩) ?_) | refine oN ?_ | refine aS ?_ | refine aR ?_ | refine aK ?_ | refine aT ?_ | refine aC rfl ?_ | refine bT ?_ | refine bF ?_); (try conv => whnf))
    (done)
  rw [decide_eq_true hfew] at fd
  have hll := hfew.1
  have hlt : ∀ t ∈ ts, t.length ≤ 1000000 := fun t hm => Nat.le_trans (hfew.2 t hm) (by decide)
  have cp := copyDesign_sat a ts lo hi fl l0 l1 l2 l3 (by omega) (by omega) hlt (by omega)
  by_cases hde : dErr a ts lo hi fl l0 l1 l2 l3 = 0
  case neg =>
    have w1 := windowOf_err a ts lo hi fl l0 l1 l2 l3 _ hde c od
    have w2 := withstands_err a ts lo hi fl l0 l1 l2 l3 _ hde od
    generalize dErr a ts lo hi fl l0 l1 l2 l3 = E at *
    obtain ⟨k, t, s, f⟩ := c
    show Sat _ _ _ [_, (true, [J k, J t, J s, J f])] _
    refine Sat_of_awp (fn := f3) cx_ok (by kernel_rfl) (by kernel_rfl) rfl (by kernel_rfl) (Nat.le_of_ble_eq_true rfl) ?_
    repeat ((first | refine oP rfl ?_ | refine rP rfl (fun _ z => z) ?_ | (refine kO 1 rfl ?_; refine rG (fun _ z => z) ?_) | (refine kO 2 rfl ?_; refine rG (fun _ z => z) ?_) | (refine kO 3 rfl ?_; refine rG (fun _ z => z) ?_) | (refine kO 4 rfl ?_; refine rG (fun _ z => z) ?_) | (refine kO 7 rfl ?_; first | refine rG (fun _ z => ⟨_, awake_sat, z⟩) ?_ | refine rG (fun _ z => ⟨_, fd, z⟩) ?_ | refine rG (fun _ z => ⟨_, de, z⟩) ?_ | refine rG (fun _ z => ⟨_, cp, z⟩) ?_ | refine rG (fun _ z => ⟨_, w1, z⟩) ?_ | refine rG (fun _ z => ⟨_, w2, z⟩) ?_ | refine rG (fun _ z => ⟨_, cd, z⟩) ?_ | refine rG (fun _ z => ⟨_, sm0, z⟩) ?_) | refine oN ?_ | refine aS ?_ | refine aR ?_ | refine aK ?_ | refine aT ?_ | refine aC rfl ?_ | refine bF ?_ | refine bPt (by omega) ?_ | refine bPf (by omega) ?_ | refine oY rfl rfl rfl ?_ | refine oIt rfl rfl rfl (by omega) ?_ | refine dI (by kernel_rfl) ?_); (try conv => whnf))
    exact res_bo (by simp)
  rw [hde] at de od cd
  have h := dErr_ok hde
  have ws := withstandsF_sat a ts lo hi fl l0 l1 l2 l3 h od
  have rw1 := refWithstands_sat a ts lo hi fl l0 l1 l2 l3 h
  have ce := refCaseErr_sat a ts lo hi fl l0 l1 l2 l3 c (by omega) (by omega)
  generalize wsV a ts lo hi fl l0 l1 l2 l3 = B at *
  by_cases hce : cErr ts.length lo hi fl.length c = 0
  case neg =>
    have w1 := windowOf_cerr a ts lo hi fl l0 l1 l2 l3 h c hce od
    generalize cErr ts.length lo hi fl.length c = E at *
    obtain ⟨k, t, s, f⟩ := c
    show Sat _ _ _ [_, (true, [J k, J t, J s, J f])] _
    refine Sat_of_awp (fn := f3) cx_ok (by kernel_rfl) (by kernel_rfl) rfl (by kernel_rfl) (Nat.le_of_ble_eq_true rfl) ?_
    repeat ((first | refine oP rfl ?_ | refine rP rfl (fun _ z => z) ?_ | (refine kO 1 rfl ?_; refine rG (fun _ z => z) ?_) | (refine kO 2 rfl ?_; refine rG (fun _ z => z) ?_) | (refine kO 3 rfl ?_; refine rG (fun _ z => z) ?_) | (refine kO 4 rfl ?_; refine rG (fun _ z => z) ?_) | (refine kO 7 rfl ?_; first | refine rG (fun _ z => ⟨_, awake_sat, z⟩) ?_ | refine rG (fun _ z => ⟨_, fd, z⟩) ?_ | refine rG (fun _ z => ⟨_, de, z⟩) ?_ | refine rG (fun _ z => ⟨_, cp, z⟩) ?_ | refine rG (fun _ z => ⟨_, w1, z⟩) ?_ | refine rG (fun _ z => ⟨_, ws, z⟩) ?_ | refine rG (fun _ z => ⟨_, cd, z⟩) ?_ | refine rG (fun _ z => ⟨_, rw1, z⟩) ?_ | refine rG (fun _ z => ⟨_, ce, z⟩) ?_ | refine rG (fun _ z => ⟨_, sm0, z⟩) ?_) | refine oN ?_ | refine aS ?_ | refine aR ?_ | refine aK ?_ | refine aT ?_ | refine aC rfl ?_ | refine bF ?_ | refine bPt (by omega) ?_ | refine bPf (by omega) ?_ | refine oY rfl rfl rfl ?_ | refine oIt rfl rfl rfl (by omega) ?_ | refine dI (by kernel_rfl) ?_); (try conv => whnf))
    exact res_bo (by simp)
  have hc := cErr_zero.1 hce
  rw [hce] at ce
  have w1 := windowOf_sat a ts lo hi fl l0 l1 l2 l3 h c hc od
  have hv := h.vw hc
  have hl := hv.1.len
  have hle := hv.1.le
  have hl2 := hv.2.len
  have hle2 := hv.2.le
  have hlo := h.lo3
  have hhi := h.hi3
  obtain ⟨⟨k1, k2⟩, ⟨t1, t2⟩, ⟨s1, s2⟩, ⟨f1, f2⟩⟩ := hc
  obtain ⟨k, t, s, f⟩ := c
  simp only at k1 k2 t1 t2 s1 s2 f1 f2
  obtain ⟨tn, rfl⟩ : ∃ n : Nat, t = n := ⟨t.toNat, by omega⟩
  dsimp only at hl2 hle2
  have g1 := refWindowC_sat a ts lo hi fl l0 l1 l2 l3 k tn s f (by omega) (by omega) (by show (tapF ts (k, (tn : Int), s, f)).length ≤ 20; omega) (by omega)
  have sm := same_sat (shI a s) (shO (tapF ts (k, (tn : Int), s, f)) s) (shI a s) (shO (tapF ts (k, (tn : Int), s, f)) s) (show (shI a s).length ≤ maxLen by unfold maxLen; omega) (show (shO (tapF ts (k, (tn : Int), s, f)) s).length ≤ maxLen by unfold maxLen; omega)
  rw [decide_eq_true ⟨rfl, rfl⟩] at sm
  show Sat _ _ _ [_, (true, [J k, J (tn : Int), J s, J f])] _
  refine Sat_of_awp (fn := f3) cx_ok (by kernel_rfl) (by kernel_rfl) rfl (by kernel_rfl) (Nat.le_of_ble_eq_true rfl) ?_
  repeat ((first | refine oP rfl ?_ | refine rP rfl (fun _ z => z) ?_ | (refine kO 1 rfl ?_; refine rG (fun _ z => z) ?_) | (refine kO 2 rfl ?_; refine rG (fun _ z => z) ?_) | (refine kO 3 rfl ?_; refine rG (fun _ z => z) ?_) | (refine kO 4 rfl ?_; refine rG (fun _ z => z) ?_) | (refine kO 7 rfl ?_; first | refine rG (fun _ z => ⟨_, awake_sat, z⟩) ?_ | refine rG (fun _ z => ⟨_, fd, z⟩) ?_ | refine rG (fun _ z => ⟨_, de, z⟩) ?_ | refine rG (fun _ z => ⟨_, cp, z⟩) ?_ | refine rG (fun _ z => ⟨_, w1, z⟩) ?_ | refine rG (fun _ z => ⟨_, ws, z⟩) ?_ | refine rG (fun _ z => ⟨_, cd, z⟩) ?_ | refine rG (fun _ z => ⟨_, rw1, z⟩) ?_ | refine rG (fun _ z => ⟨_, ce, z⟩) ?_ | refine rG (fun _ z => ⟨_, g1, z⟩) ?_ | refine rG (fun _ z => ⟨_, sm, z⟩) ?_) | refine oN ?_ | refine aS ?_ | refine aR ?_ | refine aK ?_ | refine aT ?_ | refine aC rfl ?_ | refine bF ?_ | refine bPf (by omega) ?_ | refine oY rfl rfl rfl ?_ | refine dI (by kernel_rfl) ?_); (try conv => whnf))
  (rfl)
theorem forceWorsts_sat (c : Ca) (ha : a.length ≤ maxLen) (ht : ∀ t ∈ ts, t.length ≤ maxLen) (hT : ts.length ≤ maxLen) (hF : fl.length ≤ maxLen) (hf : ∀ f ∈ fl, inI f.2.2.2.2.1 ∧ inI f.2.2.2.2.2) :
    Sat cx.P cx.gl 4 [Ds a ts lo hi fl l0 l1 l2 l3, CaX c] (.one (Bo true)) := by
  have fd := fewDesign_sat a ts lo hi fl l0 l1 l2 l3 hT hF ha
  have de := refDesignErr_sat a ts lo hi fl l0 l1 l2 l3 ha ht hT hF hf
  have od := openDesign_sat a ts lo hi fl l0 l1 l2 l3 ha ht hT hF hf
  by_cases hfew : ((a.length ≤ 17 ∧ ts.length ≤ 6 ∧ fl.length ≤ 6) ∧ ∀ t ∈ ts, t.length ≤ 17)
  case neg =>
    rw [decide_eq_false hfew] at fd
    obtain ⟨k, t, s, f⟩ := c
    show Sat _ _ _ [_, (true, [J k, J t, J s, J f])] _
    refine Sat_of_awp (fn := f4) cx_ok (by kernel_rfl) (by kernel_rfl) rfl (by kernel_rfl) (Nat.le_of_ble_eq_true rfl) ?_
    repeat ((first | refine oP rfl ?_ | refine rP rfl (fun _ z => z) ?_ | (refine kO 2 rfl ?_; refine rG (fun _ z => z) ?_) | (refine kO 3 rfl ?_; refine rG (fun _ z => z) ?_) | (refine kO 7 rfl ?_; first | refine rG (fun _ z => ⟨_, awake_sat, z⟩) ?_ | refine rG (fun _ z => ⟨_, fd, z⟩) ?_) | refine oN ?_ | refine aS ?_ | refine aR ?_ | refine aK ?_ | refine aT ?_ | refine aC rfl ?_ | refine bT ?_ | refine bF ?_); (try conv => whnf))
    (done)
  rw [decide_eq_true hfew] at fd
  have hll := hfew.1
  have hlt : ∀ t ∈ ts, t.length ≤ 1000000 := fun t hm => Nat.le_trans (hfew.2 t hm) (by decide)
  have cp := copyDesign_sat a ts lo hi fl l0 l1 l2 l3 (by omega) (by omega) hlt (by omega)
  by_cases hde : dErr a ts lo hi fl l0 l1 l2 l3 = 0
  case neg =>
    have w1 := worstOf_err a ts lo hi fl l0 l1 l2 l3 _ hde od
    have w2 := checkWorst_err a ts lo hi fl l0 l1 l2 l3 _ hde c od
    generalize dErr a ts lo hi fl l0 l1 l2 l3 = E at *
    obtain ⟨k, t, s, f⟩ := c
    show Sat _ _ _ [_, (true, [J k, J t, J s, J f])] _
    refine Sat_of_awp (fn := f4) cx_ok (by kernel_rfl) (by kernel_rfl) rfl (by kernel_rfl) (Nat.le_of_ble_eq_true rfl) ?_
    repeat ((first | refine oP rfl ?_ | refine rP rfl (fun _ z => z) ?_ | (refine kO 1 rfl ?_; refine rG (fun _ z => z) ?_) | (refine kO 2 rfl ?_; refine rG (fun _ z => z) ?_) | (refine kO 3 rfl ?_; refine rG (fun _ z => z) ?_) | (refine kO 4 rfl ?_; refine rG (fun _ z => z) ?_) | (refine kO 7 rfl ?_; first | refine rG (fun _ z => ⟨_, awake_sat, z⟩) ?_ | refine rG (fun _ z => ⟨_, fd, z⟩) ?_ | refine rG (fun _ z => ⟨_, de, z⟩) ?_ | refine rG (fun _ z => ⟨_, cp, z⟩) ?_ | refine rG (fun _ z => ⟨_, w1, z⟩) ?_ | refine rG (fun _ z => ⟨_, w2, z⟩) ?_) | refine oN ?_ | refine aS ?_ | refine aR ?_ | refine aK ?_ | refine aT ?_ | refine aC rfl ?_ | refine bF ?_ | refine bPt (by omega) ?_ | refine oY rfl rfl rfl ?_ | refine oIt rfl rfl rfl (by omega) ?_ | refine dI (by kernel_rfl) ?_); (try conv => whnf))
    exact res_bo (by simp)
  rw [hde] at de od
  have h := dErr_ok hde
  have ws := worstOf_sat a ts lo hi fl l0 l1 l2 l3 h od
  have rw1 := refWorstOf_sat a ts lo hi fl l0 l1 l2 l3 h
  have ce := refCaseErr_sat a ts lo hi fl l0 l1 l2 l3 c (by omega) (by omega)
  generalize worstC a ts lo hi fl l0 l1 l2 l3 = W at *
  obtain ⟨wk, wt, ws', wf⟩ := W
  by_cases hce : cErr ts.length lo hi fl.length c = 0
  case neg =>
    have w1 := checkWorst_cerr a ts lo hi fl l0 l1 l2 l3 h c hce od
    generalize cErr ts.length lo hi fl.length c = E at *
    obtain ⟨k, t, s, f⟩ := c
    show Sat _ _ _ [_, (true, [J k, J t, J s, J f])] _
    refine Sat_of_awp (fn := f4) cx_ok (by kernel_rfl) (by kernel_rfl) rfl (by kernel_rfl) (Nat.le_of_ble_eq_true rfl) ?_
    repeat ((first | refine oP rfl ?_ | refine rP rfl (fun _ z => z) ?_ | (refine kO 1 rfl ?_; refine rG (fun _ z => z) ?_) | (refine kO 2 rfl ?_; refine rG (fun _ z => z) ?_) | (refine kO 3 rfl ?_; refine rG (fun _ z => z) ?_) | (refine kO 4 rfl ?_; refine rG (fun _ z => z) ?_) | (refine kO 7 rfl ?_; first | refine rG (fun _ z => ⟨_, awake_sat, z⟩) ?_ | refine rG (fun _ z => ⟨_, fd, z⟩) ?_ | refine rG (fun _ z => ⟨_, de, z⟩) ?_ | refine rG (fun _ z => ⟨_, cp, z⟩) ?_ | refine rG (fun _ z => ⟨_, ws, z⟩) ?_ | refine rG (fun _ z => ⟨_, w1, z⟩) ?_ | refine rG (fun _ z => ⟨_, rw1, z⟩) ?_ | refine rG (fun _ z => ⟨_, ce, z⟩) ?_) | refine oN ?_ | refine aS ?_ | refine aR ?_ | refine aK ?_ | refine aT ?_ | refine aC rfl ?_ | refine bF ?_ | refine bPt (by omega) ?_ | refine bPf (by omega) ?_ | refine oY rfl rfl rfl ?_ | refine oIt rfl rfl rfl (by omega) ?_ | refine dI (by kernel_rfl) ?_); (try conv => whnf))
    exact res_bo (by simp)
  have hc := cErr_zero.1 hce
  rw [hce] at ce
  have w1 := checkWorst_sat a ts lo hi fl l0 l1 l2 l3 h c hc od
  have g1 := refCheckWorst_sat a ts lo hi fl l0 l1 l2 l3 h c hc
  unfold chk at w1
  generalize worseC a ts lo hi fl l0 l1 l2 l3 c = o at *
  obtain ⟨k, t, s, f⟩ := c
  show Sat _ _ _ [_, (true, [J k, J t, J s, J f])] _
  cases o with
  | none =>
    refine Sat_of_awp (fn := f4) cx_ok (by kernel_rfl) (by kernel_rfl) rfl (by kernel_rfl) (Nat.le_of_ble_eq_true rfl) ?_
    repeat ((first | refine oP rfl ?_ | refine rP rfl (fun _ z => z) ?_ | (refine kO 1 rfl ?_; refine rG (fun _ z => z) ?_) | (refine kO 2 rfl ?_; refine rG (fun _ z => z) ?_) | (refine kO 3 rfl ?_; refine rG (fun _ z => z) ?_) | (refine kO 4 rfl ?_; refine rG (fun _ z => z) ?_) | (refine kO 7 rfl ?_; first | refine rG (fun _ z => ⟨_, awake_sat, z⟩) ?_ | refine rG (fun _ z => ⟨_, fd, z⟩) ?_ | refine rG (fun _ z => ⟨_, de, z⟩) ?_ | refine rG (fun _ z => ⟨_, cp, z⟩) ?_ | refine rG (fun _ z => ⟨_, ws, z⟩) ?_ | refine rG (fun _ z => ⟨_, w1, z⟩) ?_ | refine rG (fun _ z => ⟨_, rw1, z⟩) ?_ | refine rG (fun _ z => ⟨_, ce, z⟩) ?_ | refine rG (fun _ z => ⟨_, g1, z⟩) ?_) | refine oN ?_ | refine aS ?_ | refine aR ?_ | refine aK ?_ | refine aT ?_ | refine aC rfl ?_ | refine bT ?_ | refine bF ?_ | refine bPf (by omega) ?_ | refine oY rfl rfl rfl ?_ | refine dI (by kernel_rfl) ?_); (try conv => whnf))
    exact res_bo (by simp)
  | some d =>
    obtain ⟨k', t', s', f'⟩ := d
    refine Sat_of_awp (fn := f4) cx_ok (by kernel_rfl) (by kernel_rfl) rfl (by kernel_rfl) (Nat.le_of_ble_eq_true rfl) ?_
    repeat ((first | refine oP rfl ?_ | refine rP rfl (fun _ z => z) ?_ | (refine kO 1 rfl ?_; refine rG (fun _ z => z) ?_) | (refine kO 2 rfl ?_; refine rG (fun _ z => z) ?_) | (refine kO 3 rfl ?_; refine rG (fun _ z => z) ?_) | (refine kO 4 rfl ?_; refine rG (fun _ z => z) ?_) | (refine kO 7 rfl ?_; first | refine rG (fun _ z => ⟨_, awake_sat, z⟩) ?_ | refine rG (fun _ z => ⟨_, fd, z⟩) ?_ | refine rG (fun _ z => ⟨_, de, z⟩) ?_ | refine rG (fun _ z => ⟨_, cp, z⟩) ?_ | refine rG (fun _ z => ⟨_, ws, z⟩) ?_ | refine rG (fun _ z => ⟨_, w1, z⟩) ?_ | refine rG (fun _ z => ⟨_, rw1, z⟩) ?_ | refine rG (fun _ z => ⟨_, ce, z⟩) ?_ | refine rG (fun _ z => ⟨_, g1, z⟩) ?_) | refine oN ?_ | refine aS ?_ | refine aR ?_ | refine aK ?_ | refine aT ?_ | refine aC rfl ?_ | refine bF ?_ | refine bPf (by omega) ?_ | refine oY rfl rfl rfl ?_ | refine dI (by kernel_rfl) ?_); (try conv => whnf))
    exact res_bo (by simp)
end
end Go.Proofs.Tryz
