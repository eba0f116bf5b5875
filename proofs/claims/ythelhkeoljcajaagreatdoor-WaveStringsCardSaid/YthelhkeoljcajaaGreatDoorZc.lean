/- Parts of the proof, joined. -/
import Derived.Test.YthelhkeoljcajaaGreatDoorZb
import Derived.Test.YthelhkeoljcajaaGreatDoorVa
import Derived.Test.YthelhkeoljcajaaGreatDoorFe
namespace Go.Proofs.Tryz
open Go.Fw Go.IntWalk Go.Plain
set_option maxRecDepth 100000
set_option maxHeartbeats 8000000
/-- What a record's string is: a record, or an error. -/
def endRec (o : Option (Int × List Int)) : (Int × List Int) × Int := match o with
  | some (st, l) => if recErr st l = 0 then ((st, l), 0) else ((0, []), recErr st l)
  | none => ((0, []), 7)
abbrev PR (r : (Int × List Int) × Int) : List SV := [Rc r.1.1 r.1.2, I r.2]
theorem strs_at {l : List (List UInt8)} {i : Nat} (h : i < l.length) : (strs l)[i]? = some [.lit (.string (B (l.getD i [])))] := by
  simp [List.getD_eq_getElem?_getD, h]
theorem wParseRecord_sat (s : List UInt8) (hl : s.length ≤ 10000) : Sat cx.P cx.gl 11 [SS s] (.tup (PR (endRec (recPre (spl 32 s))))) := by
  obtain ⟨h1, h2⟩ := cutS_spl s 32
  obtain ⟨h3, h4⟩ := spl_len 32 s
  have c1 := split_sat s 32 (by omega) h2
  rw [h1, show (32 : UInt8).toNat = 32 from rfl] at c1
  generalize spl 32 s = ws at *
  have hn := strs_len ws
  refine Sat_of_awp (fn := f11) cx_ok (by kernel_rfl) (by kernel_rfl) rfl (by kernel_rfl) (Nat.le_of_ble_eq_true rfl) ?_
  repeat ((first | refine oP rfl ?_ | refine rP rfl (fun _ z => z) ?_ | (refine kO 1 rfl ?_; refine rG (fun _ z => z) ?_) | (refine kO 7 rfl ?_; refine rG (fun _ z => ⟨_, c1, z⟩) ?_) | (refine kO 6 rfl ?_; first | refine rSLen rfl rfl rfl rfl rfl rfl ?_ | refine rLenov rfl rfl rfl rfl rfl rfl rfl ?_) | refine oN ?_ | refine aS ?_ | refine aR ?_ | refine aK ?_ | refine aB ?_ | refine aC rfl ?_ | refine bPf (by omega) ?_ | refine aL ?_); (try conv => whnf))
  refine loop_ind (ι := Nat × Int × List Int) (fun p => (p.1 ≤ ws.length ∧ p.2.2.length ≤ p.1) ∧ recPre (ws.take p.1) = some p.2) (fun p => ws.length - p.1)
    (fun p => ⟨[(2, pP 0), (4, pP 1), (15, pO 2), (16, vI ws.length), (17, vI p.1)], [(0, some (.box 24 [.st (J 0), .nil])), (1, some (.box 24 [.st (J p.2.1), .own 3])), (2, some (.row false 1 (.view (strs ws)))), (3, some (.row true 1 (.ints p.2.2)))], 4⟩)
    (0, 0, []) (by
      refine Sub.trans (freeze_sub 7 rfl) ?_
      refine Sub.trans (nilb_sub 5 1 1 (.ints []) (T := 24) (cs := [.st (J 0), .nil]) (by decide) rfl rfl rfl rfl) ?_
      exact canon_auto (by rw [← hn]; kernel_rfl)) ⟨⟨Nat.zero_le _, Nat.le_refl _⟩, rfl⟩ ?_
  rintro ⟨i, st, l⟩ ⟨⟨hi, ha⟩, hg⟩
  dsimp only at hi ha hg ⊢
  by_cases hlt : i < ws.length
  · have he := strs_at hlt
    have hwl : (ws.getD i []).length ≤ 10000 := by
      have := h4 (ws.getD i []) (by rw [show ws.getD i [] = ws[i] by simp [List.getD_eq_getElem?_getD, hlt]]; exact List.getElem_mem hlt)
      omega
    have hbad := recPre_bad hlt
    by_cases h0 : i = 0
    · have hb : decide ((i : Int) > 0) = false := decide_eq_false (by omega)
      have hz := fun n => recPre_zero (ws := ws) (by omega) (n := n)
      rw [if_pos h0] at hbad
      rw [← h0] at hz
      have hl0 : l = [] := List.eq_nil_of_length_eq_zero (by omega)
      subst hl0
      generalize ws.getD i [] = w at *
      cases hd : wN false 7 w with
      | some n =>
        have c := wNumber_ok (d := 7) (by decide) (by omega) hd
        rw [← hb] at c
        have hz := hz n hd
        repeat' ((first | refine oP rfl ?_ | refine rP rfl (fun _ z => z) ?_ | (refine kO 1 rfl ?_; first | refine rAdd rfl rfl rfl (by omega) ?_ | refine rG (fun _ z => z) ?_) | (refine kO 2 rfl ?_; refine rG (fun _ z => z) ?_) | (refine kO 3 rfl ?_; refine rLdv rfl rfl rfl rfl rfl rfl (by assumption) ?_) | (refine kO 4 rfl ?_; refine rG (fun _ z => z) ?_) | (refine kO 5 rfl ?_; refine rIdoN rfl rfl rfl rfl rfl rfl rfl rfl (by (dsimp only [SC.len]; omega)) ?_) | (refine kO 7 rfl ?_; refine rG (fun _ z => ⟨_, c, z⟩) ?_) | refine oN ?_ | refine aS ?_ | refine aR ?_ | refine aK ?_ | refine aX ?_ | refine aB ?_ | refine aC rfl ?_ | refine bF ?_ | refine bPt (by omega) ?_) <;> (try conv => whnf))
        all_goals first | (exfalso; omega) | (exact absurd rfl h) | (exact ⟨(i + 1, n, []), ⟨⟨hlt, by simp⟩, by rw [h0]; exact hz⟩, by dsimp only; omega, canon_auto (by kernel_rfl)⟩)
      | none =>
        rw [hbad hd]
        obtain ⟨v, c⟩ := wNumber_no (d := 7) (by omega) hd
        rw [← hb] at c
        repeat' ((first | refine oP rfl ?_ | refine rP rfl (fun _ z => z) ?_ | (refine kO 1 rfl ?_; refine rG (fun _ z => z) ?_) | (refine kO 2 rfl ?_; refine rG (fun _ z => z) ?_) | (refine kO 3 rfl ?_; refine rLdv rfl rfl rfl rfl rfl rfl (by assumption) ?_) | (refine kO 4 rfl ?_; refine rG (fun _ z => z) ?_) | (refine kO 5 rfl ?_; refine rIdoN rfl rfl rfl rfl rfl rfl rfl rfl (by (dsimp only [SC.len]; omega)) ?_) | (refine kO 7 rfl ?_; refine rG (fun _ z => ⟨_, c, z⟩) ?_) | refine oN ?_ | refine aS ?_ | refine aR ?_ | refine aK ?_ | refine aB ?_ | refine aT ?_ | refine aC rfl ?_ | refine bPt (by omega) ?_) <;> (try conv => whnf))
        all_goals (exact rfl)
    · have hb : decide ((i : Int) > 0) = true := decide_eq_true (by omega)
      have hz := fun n => recPre_snoc (by omega) hlt hg (n := n)
      rw [if_neg h0, ← wN_true] at hbad
      rw [← wN_true] at hz
      generalize ws.getD i [] = w at *
      cases hd : wN true 7 w with
      | some n =>
        have c := wNumber_ok (d := 7) (by decide) (by omega) hd
        rw [← hb] at c
        have hz := hz n hd
        have hap : (l ++ [n]).length = l.length + 1 := by simp
        repeat' ((first | refine oP rfl ?_ | refine rP rfl (fun _ z => z) ?_ | (refine kO 1 rfl ?_; first | refine rAdd rfl rfl rfl (by omega) ?_ | refine rG (fun _ z => z) ?_) | (refine kO 2 rfl ?_; refine rG (fun _ z => z) ?_) | (refine kO 3 rfl ?_; first | refine rLdv rfl rfl rfl rfl rfl rfl (by assumption) ?_ | refine rLdb rfl rfl rfl rfl rfl rfl rfl ?_) | (refine kO 4 rfl ?_; refine rG (fun _ z => z) ?_) | (refine kO 5 rfl ?_; refine rIdoN rfl rfl rfl rfl rfl rfl rfl rfl (by (dsimp only [SC.len]; omega)) ?_) | (refine kO 7 rfl ?_; refine rG (fun _ z => ⟨_, c, z⟩) ?_) | refine oN ?_ | refine aS ?_ | refine aR ?_ | refine aK ?_ | refine aB ?_ | refine aC rfl ?_ | refine bPt (by omega) ?_ | refine bPf (by omega) ?_ | refine rG (fun _ z => ⟨(by (rfl)), (by (exact lnS (by omega))), z⟩) ?_) <;> (try conv => whnf))
        all_goals first | (exfalso; omega) | (exact absurd rfl h) | (exact ⟨(i + 1, st, l ++ [n]), ⟨⟨hlt, by dsimp only; omega⟩, hz⟩, by dsimp only; omega, canon_auto (by kernel_rfl)⟩)
      | none =>
        rw [hbad hd]
        obtain ⟨v, c⟩ := wNumber_no (d := 7) (by omega) hd
        rw [← hb] at c
        repeat' ((first | refine oP rfl ?_ | refine rP rfl (fun _ z => z) ?_ | (refine kO 1 rfl ?_; refine rG (fun _ z => z) ?_) | (refine kO 2 rfl ?_; refine rG (fun _ z => z) ?_) | (refine kO 3 rfl ?_; refine rLdv rfl rfl rfl rfl rfl rfl (by assumption) ?_) | (refine kO 4 rfl ?_; refine rG (fun _ z => z) ?_) | (refine kO 5 rfl ?_; refine rIdoN rfl rfl rfl rfl rfl rfl rfl rfl (by (dsimp only [SC.len]; omega)) ?_) | (refine kO 7 rfl ?_; refine rG (fun _ z => ⟨_, c, z⟩) ?_) | refine oN ?_ | refine aS ?_ | refine aR ?_ | refine aK ?_ | refine aB ?_ | refine aT ?_ | refine aC rfl ?_ | refine bT ?_ | refine bPt (by omega) ?_) <;> (try conv => whnf))
        all_goals (exact rfl)
  · obtain rfl : i = ws.length := by omega
    rw [List.take_length] at hg
    rw [hg]
    have c3 := checkRecord_sat st l (by unfold maxLen; omega)
    have e : endRec (some (st, l)) = if recErr st l = 0 then ((st, l), 0) else ((0, []), recErr st l) := rfl
    rw [e]
    generalize recErr st l = x at *
    by_cases hx : x = 0
    · rw [if_pos hx]
      repeat' ((first | refine oP rfl ?_ | refine rP rfl (fun _ z => z) ?_ | (refine kO 1 rfl ?_; refine rG (fun _ z => z) ?_) | (refine kO 3 rfl ?_; refine rG (fun _ z => z) ?_) | (refine kO 4 rfl ?_; refine rG (fun _ z => z) ?_) | (refine kO 7 rfl ?_; refine rG (fun _ z => ⟨_, c3, z⟩) ?_) | refine oN ?_ | refine aS ?_ | refine aR ?_ | refine aK ?_ | refine aX ?_ | refine aT ?_ | refine aC rfl ?_ | refine bPf (by omega) ?_) <;> (try conv => whnf))
      all_goals (exact rfl)
    · rw [if_neg hx]
      repeat' ((first | refine oP rfl ?_ | refine rP rfl (fun _ z => z) ?_ | (refine kO 1 rfl ?_; refine rG (fun _ z => z) ?_) | (refine kO 3 rfl ?_; refine rG (fun _ z => z) ?_) | (refine kO 4 rfl ?_; refine rG (fun _ z => z) ?_) | (refine kO 7 rfl ?_; refine rG (fun _ z => ⟨_, c3, z⟩) ?_) | refine oN ?_ | refine aS ?_ | refine aR ?_ | refine aX ?_ | refine aT ?_ | refine aC rfl ?_ | refine bPt (by omega) ?_ | refine bPf (by omega) ?_) <;> (try conv => whnf))
      all_goals (exact rfl)
end Go.Proofs.Tryz

namespace Go.Proofs.Tryz
open Go.Fw Go.IntWalk Go.Plain
set_option maxRecDepth 100000
set_option maxHeartbeats 8000000
theorem refParseRecord_sat (s : List UInt8) (hl : s.length ≤ 10000) : Sat cx.P cx.gl 13 [SS s] (.tup (PR (endRec (recPre (spl 32 s))))) := by
  obtain ⟨h3, h4⟩ := spl_len 32 s
  have c1 := cut_sat s 32 (by omega)
  rw [show (32 : UInt8).toNat = 32 from rfl, cutR_spl] at c1
  generalize spl 32 s = ws at *
  have hn := strs_len ws
  refine Sat_of_awp (fn := f13) cx_ok (by kernel_rfl) (by kernel_rfl) rfl (by kernel_rfl) (Nat.le_of_ble_eq_true rfl) ?_
  repeat ((first | refine oP rfl ?_ | refine rP rfl (fun _ z => z) ?_ | (refine kO 1 rfl ?_; refine rG (fun _ z => z) ?_) | (refine kO 7 rfl ?_; refine rG (fun _ z => ⟨_, c1, z⟩) ?_) | (refine kO 6 rfl ?_; refine rSLen rfl rfl rfl rfl rfl rfl ?_) | refine oN ?_ | refine aS ?_ | refine aR ?_ | refine aK ?_ | refine aB ?_ | refine aC rfl ?_ | refine bPf (by omega) ?_ | refine aL ?_); (try conv => whnf))
  refine loop_ind (ι := Nat × Int × List Int) (fun p => (p.1 ≤ ws.length ∧ p.2.2.length ≤ p.1) ∧ recPre (ws.take p.1) = some p.2) (fun p => ws.length - p.1)
    (fun p => ⟨[(2, pP 0), (4, pP 1), (5, pO 2), (6, vI p.1)], [(0, some (.box 24 [.st (J 0), .nil])), (1, some (.box 24 [.st (J p.2.1), .own 3])), (2, some (.row false 1 (.view (strs ws)))), (3, some (.row true 1 (.ints p.2.2)))], 4⟩)
    (0, 0, []) (by
      refine Sub.trans (freeze_sub 7 rfl) ?_
      refine Sub.trans (nilb_sub 5 1 1 (.ints []) (T := 24) (cs := [.st (J 0), .nil]) (by decide) rfl rfl rfl rfl) ?_
      exact canon_auto (by kernel_rfl)) ⟨⟨Nat.zero_le _, Nat.le_refl _⟩, rfl⟩ ?_
  rintro ⟨i, st, l⟩ ⟨⟨hi, ha⟩, hg⟩
  dsimp only at hi ha hg ⊢
  by_cases hlt : i < ws.length
  · have he := strs_at hlt
    have hwl : (ws.getD i []).length ≤ 10000 := by
      have := h4 (ws.getD i []) (by rw [show ws.getD i [] = ws[i] by simp [List.getD_eq_getElem?_getD, hlt]]; exact List.getElem_mem hlt)
      omega
    have hbad := recPre_bad hlt
    by_cases h0 : i = 0
    · have hz := fun n => recPre_zero (ws := ws) (by omega) (n := n)
      rw [if_pos h0] at hbad
      rw [← h0] at hz
      have hl0 : l = [] := List.eq_nil_of_length_eq_zero (by omega)
      subst hl0
      generalize ws.getD i [] = w at *
      have c := number_sat w 7 (by decide) (by omega)
      cases hd : numN 7 w with
      | some n =>
        rw [hd] at c
        have hwp := numN_len hd
        have hp := wN_pos hd
        by_cases h45 : (w.getD 0 0).toNat = 45
        · rw [if_pos h45] at hp
          rw [hbad hp]
          repeat' ((first | refine oP rfl ?_ | refine rP rfl (fun _ z => z) ?_ | (refine kO 1 rfl ?_; refine rG (fun _ z => z) ?_) | (refine kO 2 rfl ?_; refine rG (fun _ z => z) ?_) | (refine kO 3 rfl ?_; refine rLdv rfl rfl rfl rfl rfl rfl (by assumption) ?_) | (refine kO 4 rfl ?_; refine rG (fun _ z => z) ?_) | (refine kO 5 rfl ?_; refine rIdoN rfl rfl rfl rfl rfl rfl rfl rfl (by (dsimp only [SC.len]; omega)) ?_) | (refine kO 7 rfl ?_; refine rG (fun _ z => ⟨_, c, z⟩) ?_) | (refine kO 6 rfl ?_; refine rLenov rfl rfl rfl rfl rfl rfl rfl ?_) | (refine kO 8 rfl ?_; refine rSIdx rfl rfl rfl rfl rfl (by omega) ?_) | refine oN ?_ | refine aS ?_ | refine aR ?_ | refine aK ?_ | refine aB ?_ | refine aT ?_ | refine aC rfl ?_ | refine bPt (by omega) ?_ | refine oY rfl rfl rfl ?_ | refine oIt rfl rfl rfl (by omega) ?_) <;> (try conv => whnf))
          all_goals (exact rfl)
        · rw [if_neg h45] at hp
          have hz := hz n hp
          repeat' ((first | refine oP rfl ?_ | refine rP rfl (fun _ z => z) ?_ | (refine kO 1 rfl ?_; first | refine rAdd rfl rfl rfl (by omega) ?_ | refine rG (fun _ z => z) ?_) | (refine kO 2 rfl ?_; refine rG (fun _ z => z) ?_) | (refine kO 3 rfl ?_; refine rLdv rfl rfl rfl rfl rfl rfl (by assumption) ?_) | (refine kO 4 rfl ?_; refine rG (fun _ z => z) ?_) | (refine kO 5 rfl ?_; refine rIdoN rfl rfl rfl rfl rfl rfl rfl rfl (by (dsimp only [SC.len]; omega)) ?_) | (refine kO 7 rfl ?_; refine rG (fun _ z => ⟨_, c, z⟩) ?_) | (refine kO 6 rfl ?_; refine rLenov rfl rfl rfl rfl rfl rfl rfl ?_) | (refine kO 8 rfl ?_; refine rSIdx rfl rfl rfl rfl rfl (by omega) ?_) | refine oN ?_ | refine aS ?_ | refine aR ?_ | refine aK ?_ | refine aB ?_ | refine aC rfl ?_ | refine bPt (by omega) ?_ | refine bPf (by omega) ?_ | refine oY rfl rfl rfl ?_ | refine oIt rfl rfl rfl (by omega) ?_) <;> (try conv => whnf))
          all_goals first | (exfalso; omega) | (exact absurd rfl h) | (exact ⟨(i + 1, n, []), ⟨⟨hlt, by simp⟩, by rw [h0]; exact hz⟩, by dsimp only; omega, canon_auto (by kernel_rfl)⟩)
      | none =>
        rw [hd] at c
        rw [hbad (wN_none hd)]
        repeat' ((first | refine oP rfl ?_ | refine rP rfl (fun _ z => z) ?_ | (refine kO 1 rfl ?_; refine rG (fun _ z => z) ?_) | (refine kO 2 rfl ?_; refine rG (fun _ z => z) ?_) | (refine kO 3 rfl ?_; refine rLdv rfl rfl rfl rfl rfl rfl (by assumption) ?_) | (refine kO 4 rfl ?_; refine rG (fun _ z => z) ?_) | (refine kO 5 rfl ?_; refine rIdoN rfl rfl rfl rfl rfl rfl rfl rfl (by (dsimp only [SC.len]; omega)) ?_) | (refine kO 7 rfl ?_; refine rG (fun _ z => ⟨_, c, z⟩) ?_) | (refine kO 6 rfl ?_; refine rLenov rfl rfl rfl rfl rfl rfl rfl ?_) | refine oN ?_ | refine aS ?_ | refine aR ?_ | refine aK ?_ | refine aB ?_ | refine aT ?_ | refine aC rfl ?_ | refine bT ?_ | refine bPt (by omega) ?_ | refine oZ rfl rfl rfl ?_ | refine oO rfl rfl rfl ?_) <;> (try conv => whnf))
        all_goals (exact rfl)
    · have hz := fun n => recPre_snoc (by omega) hlt hg (n := n)
      rw [if_neg h0] at hbad
      generalize ws.getD i [] = w at *
      have c := number_sat w 7 (by decide) (by omega)
      cases hd : numN 7 w with
      | some n =>
        rw [hd] at c
        have hz := hz n hd
        have hap : (l ++ [n]).length = l.length + 1 := by simp
        repeat' ((first | refine oP rfl ?_ | refine rP rfl (fun _ z => z) ?_ | (refine kO 1 rfl ?_; first | refine rAdd rfl rfl rfl (by omega) ?_ | refine rG (fun _ z => z) ?_) | (refine kO 2 rfl ?_; refine rG (fun _ z => z) ?_) | (refine kO 3 rfl ?_; first | refine rLdv rfl rfl rfl rfl rfl rfl (by assumption) ?_ | refine rLdb rfl rfl rfl rfl rfl rfl rfl ?_) | (refine kO 4 rfl ?_; refine rG (fun _ z => z) ?_) | (refine kO 5 rfl ?_; refine rIdoN rfl rfl rfl rfl rfl rfl rfl rfl (by (dsimp only [SC.len]; omega)) ?_) | (refine kO 7 rfl ?_; refine rG (fun _ z => ⟨_, c, z⟩) ?_) | (refine kO 6 rfl ?_; refine rLenov rfl rfl rfl rfl rfl rfl rfl ?_) | refine oN ?_ | refine aS ?_ | refine aR ?_ | refine aK ?_ | refine aB ?_ | refine aC rfl ?_ | refine bF ?_ | refine bPt (by omega) ?_ | refine bPf (by omega) ?_ | refine oY rfl rfl rfl ?_ | refine oZ rfl rfl rfl ?_ | refine oIf rfl rfl rfl (by omega) ?_ | refine rG (fun _ z => ⟨(by (rfl)), (by (exact lnS (by omega))), z⟩) ?_) <;> (try conv => whnf))
        all_goals first | (exfalso; omega) | (exact absurd rfl h) | (exact ⟨(i + 1, st, l ++ [n]), ⟨⟨hlt, by dsimp only; omega⟩, hz⟩, by dsimp only; omega, canon_auto (by kernel_rfl)⟩)
      | none =>
        rw [hd] at c
        rw [hbad hd]
        repeat' ((first | refine oP rfl ?_ | refine rP rfl (fun _ z => z) ?_ | (refine kO 1 rfl ?_; refine rG (fun _ z => z) ?_) | (refine kO 2 rfl ?_; refine rG (fun _ z => z) ?_) | (refine kO 3 rfl ?_; refine rLdv rfl rfl rfl rfl rfl rfl (by assumption) ?_) | (refine kO 4 rfl ?_; refine rG (fun _ z => z) ?_) | (refine kO 5 rfl ?_; refine rIdoN rfl rfl rfl rfl rfl rfl rfl rfl (by (dsimp only [SC.len]; omega)) ?_) | (refine kO 7 rfl ?_; refine rG (fun _ z => ⟨_, c, z⟩) ?_) | (refine kO 6 rfl ?_; refine rLenov rfl rfl rfl rfl rfl rfl rfl ?_) | refine oN ?_ | refine aS ?_ | refine aR ?_ | refine aK ?_ | refine aB ?_ | refine aT ?_ | refine aC rfl ?_ | refine bT ?_ | refine bPt (by omega) ?_ | refine oZ rfl rfl rfl ?_ | refine oO rfl rfl rfl ?_) <;> (try conv => whnf))
        all_goals (exact rfl)
  · obtain rfl : i = ws.length := by omega
    rw [List.take_length] at hg
    rw [hg]
    have c3 := refRecordErr_sat st l (by unfold maxLen; omega)
    have e : endRec (some (st, l)) = if recErr st l = 0 then ((st, l), 0) else ((0, []), recErr st l) := rfl
    rw [e]
    generalize recErr st l = x at *
    by_cases hx : x = 0
    · rw [if_pos hx]
      repeat' ((first | refine oP rfl ?_ | refine rP rfl (fun _ z => z) ?_ | (refine kO 1 rfl ?_; refine rG (fun _ z => z) ?_) | (refine kO 3 rfl ?_; refine rG (fun _ z => z) ?_) | (refine kO 4 rfl ?_; refine rG (fun _ z => z) ?_) | (refine kO 7 rfl ?_; refine rG (fun _ z => ⟨_, c3, z⟩) ?_) | (refine kO 6 rfl ?_; refine rLenov rfl rfl rfl rfl rfl rfl rfl ?_) | refine oN ?_ | refine aS ?_ | refine aR ?_ | refine aK ?_ | refine aX ?_ | refine aT ?_ | refine aC rfl ?_ | refine bPf (by omega) ?_) <;> (try conv => whnf))
      all_goals (exact rfl)
    · rw [if_neg hx]
      repeat' ((first | refine oP rfl ?_ | refine rP rfl (fun _ z => z) ?_ | (refine kO 1 rfl ?_; refine rG (fun _ z => z) ?_) | (refine kO 3 rfl ?_; refine rG (fun _ z => z) ?_) | (refine kO 4 rfl ?_; refine rG (fun _ z => z) ?_) | (refine kO 7 rfl ?_; refine rG (fun _ z => ⟨_, c3, z⟩) ?_) | (refine kO 6 rfl ?_; refine rLenov rfl rfl rfl rfl rfl rfl rfl ?_) | refine oN ?_ | refine aS ?_ | refine aR ?_ | refine aX ?_ | refine aT ?_ | refine aC rfl ?_ | refine bPt (by omega) ?_ | refine bPf (by omega) ?_) <;> (try conv => whnf))
      all_goals (exact rfl)
end Go.Proofs.Tryz
