/- Parts of the proof, joined. -/
import Derived.Test.YthelhkeoljcajaaGreatDoorZc
import Derived.Test.YthelhkeoljcajaaGreatDoorFe
namespace Go.Proofs.Tryz
open Go.Fw Go.IntWalk Go.Plain
set_option maxRecDepth 100000
set_option maxHeartbeats 8000000
/-- What a string of rules is: rules, or an error. -/
def endRul (o : Option (Int × SpT × List SpT)) : (Int × SpT × List SpT) × Int := match o with
  | some (e, q, ch) => if rulesErr e q ch = 0 then ((e, q, ch), 0) else ((0, (0, 0, 0, 0), []), rulesErr e q ch)
  | none => ((0, (0, 0, 0, 0), []), 7)
abbrev PQ (r : (Int × SpT × List SpT) × Int) : List SV := [Ru r.1.1 r.1.2.1 r.1.2.2, I r.2]
abbrev z4 : SpT := (0, 0, 0, 0)
theorem sp_uni (l : List Sp) (x : Sp) : (SC.view (l.map sp ++ [sp x])).uni 4 := by
  intro e he
  rcases List.mem_append.1 he with he | he
  · obtain ⟨w, _, rfl⟩ := List.mem_map.1 he
    rfl
  · rw [List.mem_singleton] at he; subst he; rfl
theorem wParseRules_sat (s : List UInt8) (hl : s.length ≤ 10000) : Sat cx.P cx.gl 12 [SS s] (.tup (PQ (endRul (rulPre (spl 59 s))))) := by
  obtain ⟨h1, h2⟩ := cutS_spl s 59
  obtain ⟨h3, h4⟩ := spl_len 59 s
  have h5 := spl_ne 59 s
  have c1 := split_sat s 59 (by omega) h2
  rw [h1, show (59 : UInt8).toNat = 59 from rfl] at c1
  generalize spl 59 s = ws at *
  have hn := strs_len ws
  have h6 : 0 < ws.length := List.length_pos_iff.2 h5
  have he0 := strs_at h6
  have hw0 : (ws.getD 0 []).length ≤ 10000 := by
    have := h4 (ws.getD 0 []) (by rw [show ws.getD 0 [] = ws[0] by simp [List.getD_eq_getElem?_getD, h6]]; exact List.getElem_mem h6)
    omega
  cases hd : wN false 4 (ws.getD 0 []) with
  | none =>
    obtain ⟨v, c0⟩ := wNumber_no (d := 4) (by omega) hd
    rw [rulPre_no hd]
    generalize ws.getD 0 [] = w at *
    refine Sat_of_awp (fn := f12) cx_ok (by kernel_rfl) (by kernel_rfl) rfl (by kernel_rfl) (Nat.le_of_ble_eq_true rfl) ?_
    refine aS ?_; (refine aR ?_; conv => whnf); repeat ((first | refine oP rfl ?_ | refine rP rfl (fun _ z => z) ?_ | refine oN ?_); (try conv => whnf))
    refine aS ?_
    refine aS ?_; (refine aR ?_; conv => whnf); repeat ((first | refine oP rfl ?_ | refine rP rfl (fun _ z => z) ?_ | (refine kO 1 rfl ?_; refine rG (fun _ z => z) ?_) | (refine kO 6 rfl ?_; refine rSLen rfl rfl rfl rfl rfl rfl ?_) | refine oN ?_); (try conv => whnf))
    repeat ((first | refine aK ?_ | refine aC rfl ?_ | refine bPf (by omega) ?_); (try conv => whnf))
    refine awp_seqw ?_; (refine aR ?_; conv => whnf); repeat ((first | refine oP rfl ?_ | refine rP rfl (fun _ z => z) ?_ | (refine kO 7 rfl ?_; refine rG (fun _ z => ⟨_, c1, z⟩) ?_) | refine oN ?_); (try conv => whnf))
    refine ⟨_, freeze_sub 6 rfl, ?_⟩
    repeat' ((first | refine oP rfl ?_ | refine rP rfl (fun _ z => z) ?_ | (refine kO 2 rfl ?_; refine rG (fun _ z => z) ?_) | (refine kO 3 rfl ?_; refine rLdv rfl rfl rfl rfl rfl rfl (by assumption) ?_) | (refine kO 4 rfl ?_; refine rG (fun _ z => z) ?_) | (refine kO 5 rfl ?_; refine rIdoN rfl rfl rfl rfl rfl rfl rfl rfl (by (dsimp only [SC.len]; omega)) ?_) | (refine kO 7 rfl ?_; refine rG (fun _ z => ⟨_, c0, z⟩) ?_) | refine oN ?_ | refine aS ?_ | refine aR ?_ | refine aT ?_ | refine aC rfl ?_ | refine bT ?_ | refine oZ rfl rfl rfl ?_) <;> (try conv => whnf))
    all_goals first | (exact rfl) | (exfalso; omega)
  | some n =>
    have c0 := wNumber_ok (d := 4) (by decide) (by omega) hd
    have hsm := fun q ch => rulPre_some (q := q) (ch := ch) hd
    generalize ws.getD 0 [] = w at *
    by_cases h7 : ws.length < 2
    · have e : allO spN (ws.drop 1) = some [] := by rw [List.drop_of_length_le (by omega)]; rfl
      rw [rulPre_nil e]
      refine Sat_of_awp (fn := f12) cx_ok (by kernel_rfl) (by kernel_rfl) rfl (by kernel_rfl) (Nat.le_of_ble_eq_true rfl) ?_
      refine aS ?_; (refine aR ?_; conv => whnf); repeat ((first | refine oP rfl ?_ | refine rP rfl (fun _ z => z) ?_ | refine oN ?_); (try conv => whnf))
      refine aS ?_
      refine aS ?_; (refine aR ?_; conv => whnf); repeat ((first | refine oP rfl ?_ | refine rP rfl (fun _ z => z) ?_ | (refine kO 1 rfl ?_; refine rG (fun _ z => z) ?_) | (refine kO 6 rfl ?_; refine rSLen rfl rfl rfl rfl rfl rfl ?_) | refine oN ?_); (try conv => whnf))
      repeat ((first | refine aK ?_ | refine aC rfl ?_ | refine bPf (by omega) ?_); (try conv => whnf))
      refine awp_seqw ?_; (refine aR ?_; conv => whnf); repeat ((first | refine oP rfl ?_ | refine rP rfl (fun _ z => z) ?_ | (refine kO 7 rfl ?_; refine rG (fun _ z => ⟨_, c1, z⟩) ?_) | refine oN ?_); (try conv => whnf))
      refine ⟨_, freeze_sub 6 rfl, ?_⟩
      repeat' ((first | refine oP rfl ?_ | refine rP rfl (fun _ z => z) ?_ | (refine kO 1 rfl ?_; refine rG (fun _ z => z) ?_) | (refine kO 2 rfl ?_; refine rG (fun _ z => z) ?_) | (refine kO 3 rfl ?_; refine rLdv rfl rfl rfl rfl rfl rfl (by assumption) ?_) | (refine kO 4 rfl ?_; refine rG (fun _ z => z) ?_) | (refine kO 5 rfl ?_; refine rIdoN rfl rfl rfl rfl rfl rfl rfl rfl (by (dsimp only [SC.len]; omega)) ?_) | (refine kO 7 rfl ?_; refine rG (fun _ z => ⟨_, c0, z⟩) ?_) | (refine kO 6 rfl ?_; refine rLenov rfl rfl rfl rfl rfl rfl rfl ?_) | refine oN ?_ | refine aS ?_ | refine aR ?_ | refine aT ?_ | refine aC rfl ?_ | refine bPt (by omega) ?_ | refine oY rfl rfl rfl ?_) <;> (try conv => whnf))
      all_goals (exact rfl)
    · have hps : (strs ws).drop 1 = strs (ws.drop 1) := by simp
      have hpn : ws.length - 1 = (ws.drop 1).length := by simp
      have hpl : (strs (ws.drop 1)).length = (ws.drop 1).length := strs_len _
      have hbd := rulPre_bad (ws := ws)
      have hwl : ∀ w ∈ ws.drop 1, w.length ≤ 10000 := fun w hw => by have := h4 w (List.mem_of_mem_drop hw); omega
      generalize hpd : ws.drop 1 = ps at *
      refine Sat_of_awp (fn := f12) cx_ok (by kernel_rfl) (by kernel_rfl) rfl (by kernel_rfl) (Nat.le_of_ble_eq_true rfl) ?_
      refine aS ?_; (refine aR ?_; conv => whnf); repeat ((first | refine oP rfl ?_ | refine rP rfl (fun _ z => z) ?_ | refine oN ?_); (try conv => whnf))
      refine aS ?_
      refine aS ?_; (refine aR ?_; conv => whnf); repeat ((first | refine oP rfl ?_ | refine rP rfl (fun _ z => z) ?_ | (refine kO 1 rfl ?_; refine rG (fun _ z => z) ?_) | (refine kO 6 rfl ?_; refine rSLen rfl rfl rfl rfl rfl rfl ?_) | refine oN ?_); (try conv => whnf))
      repeat ((first | refine aK ?_ | refine aC rfl ?_ | refine bPf (by omega) ?_); (try conv => whnf))
      refine awp_seqw ?_; (refine aR ?_; conv => whnf); repeat ((first | refine oP rfl ?_ | refine rP rfl (fun _ z => z) ?_ | (refine kO 7 rfl ?_; refine rG (fun _ z => ⟨_, c1, z⟩) ?_) | refine oN ?_); (try conv => whnf))
      refine ⟨_, freeze_sub 6 rfl, ?_⟩
      repeat ((first | refine oP rfl ?_ | refine rP rfl (fun _ z => z) ?_ | (refine kO 1 rfl ?_; refine rG (fun _ z => z) ?_) | (refine kO 2 rfl ?_; refine rG (fun _ z => z) ?_) | (refine kO 3 rfl ?_; refine rLdv rfl rfl rfl rfl rfl rfl (by assumption) ?_) | (refine kO 4 rfl ?_; refine rG (fun _ z => z) ?_) | (refine kO 5 rfl ?_; refine rIdoN rfl rfl rfl rfl rfl rfl rfl rfl (by (dsimp only [SC.len]; omega)) ?_) | (refine kO 7 rfl ?_; refine rG (fun _ z => ⟨_, c0, z⟩) ?_) | (refine kO 6 rfl ?_; first | refine rLenv rfl rfl rfl rfl rfl rfl ?_ | refine rLenov rfl rfl rfl rfl rfl rfl rfl ?_) | (refine kO 8 rfl ?_; refine rVOlL rfl rfl rfl rfl rfl rfl rfl rfl (by omega) ?_) | refine oN ?_ | refine aS ?_ | refine aR ?_ | refine aK ?_ | refine aB ?_ | refine aC rfl ?_ | refine bPf (by omega) ?_ | refine aL ?_ | refine oY rfl rfl rfl ?_); (try conv => whnf))
      refine loop_ind (ι := Nat × List Sp) (fun p => (p.1 ≤ ps.length ∧ p.2.length = p.1) ∧ allO spN (ps.take p.1) = some p.2) (fun p => ps.length - p.1)
        (fun p => ⟨[(2, pP 0), (7, pP 1), (37, some (.val (false, [.st (.view (strs ps))]))), (38, vI ps.length), (39, vI p.1)], [(0, some (.box 31 [.st (J 0), .st (J 0), .st (J 0), .st (J 0), .st (J 0), .nil])), (1, some (.box 31 [.st (J n), .st (J (p.2.getD 0 z4).1), .st (J (p.2.getD 0 z4).2.1), .st (J (p.2.getD 0 z4).2.2.1), .st (J (p.2.getD 0 z4).2.2.2), .own 2])), (2, some (.row true 4 (.view ((p.2.drop 1).map sp))))], 3⟩)
        (0, []) (by
          refine Sub.trans (nilb_sub 26 5 4 (.view []) (T := 31) (cs := [.st (J n), .st (J 0), .st (J 0), .st (J 0), .st (J 0), .nil]) (by decide) rfl rfl rfl rfl) ?_
          exact canon_auto (by rw [← hpl]; kernel_rfl)) ⟨⟨Nat.zero_le _, rfl⟩, rfl⟩ ?_
      rintro ⟨i, qs⟩ ⟨⟨hi, ha⟩, hg⟩
      dsimp only at hi ha hg ⊢
      by_cases hlt : i < ps.length
      · have he := strs_at hlt
        have hwl : (ps.getD i []).length ≤ 10000 := hwl _ (by rw [show ps.getD i [] = ps[i] by simp [List.getD_eq_getElem?_getD, hlt]]; exact List.getElem_mem hlt)
        have hz := fun n => allO_snoc hlt hg (n := n)
        have hbad := allO_bad (f := spN) hlt
        generalize ps.getD i [] = x at *
        obtain ⟨q, c, k⟩ := wParseSp_any x (by omega)
        cases hx : spN x with
        | some p =>
          have hpq := k p hx
          subst hpq
          have hz := hz _ hx
          rw [hx, Option.isSome_some] at c
          by_cases h0 : i = 0
          · have hl0 : qs = [] := List.eq_nil_of_length_eq_zero (by omega)
            subst hl0
            repeat' ((first | refine oP rfl ?_ | refine rP rfl (fun _ z => z) ?_ | (refine kO 1 rfl ?_; first | refine rAdd rfl rfl rfl (by omega) ?_ | refine rG (fun _ z => z) ?_) | (refine kO 2 rfl ?_; refine rG (fun _ z => z) ?_) | (refine kO 3 rfl ?_; first | refine rLdr rfl rfl rfl rfl rfl ?_ | refine rG (fun _ z => z) ?_) | (refine kO 4 rfl ?_; refine rG (fun _ z => z) ?_) | (refine kO 5 rfl ?_; refine rIdvN rfl rfl rfl rfl rfl rfl (by assumption) rfl ?_) | (refine kO 7 rfl ?_; refine rG (fun _ z => ⟨_, c, z⟩) ?_) | refine oN ?_ | refine aS ?_ | refine aR ?_ | refine aK ?_ | refine aX ?_ | refine aB ?_ | refine aC rfl ?_ | refine bF ?_ | refine bPt (by omega) ?_) <;> (try conv => whnf))
            all_goals (exact ⟨(i + 1, [p]), ⟨⟨hlt, by dsimp only [List.length_cons, List.length_nil]; omega⟩, hz⟩, by dsimp only; omega, canon_auto (by kernel_rfl)⟩)
          · have e1 : (qs ++ [p]).getD 0 z4 = qs.getD 0 z4 := by
              cases qs with
              | nil => simp at ha; omega
              | cons a b => rfl
            have e2 : ((qs ++ [p]).drop 1).map sp = (qs.drop 1).map sp ++ [sp p] := by
              cases qs with
              | nil => simp at ha; omega
              | cons a b => simp
            have hap : (qs ++ [p]).length = qs.length + 1 := by simp
            have hcl : ((qs.drop 1).map sp).length = qs.length - 1 := by simp
            have u := sp_uni (qs.drop 1) p
            generalize hC : (qs.drop 1).map sp = C at *
            generalize hQ : qs.getD 0 z4 = Q at *
            have hcl2 : (C ++ [sp p]).length = C.length + 1 := by simp
            repeat' ((first | refine oP rfl ?_ | refine rP rfl (fun _ z => z) ?_ | (refine kO 1 rfl ?_; first | refine rAdd rfl rfl rfl (by omega) ?_ | refine rG (fun _ z => z) ?_) | (refine kO 2 rfl ?_; refine rG (fun _ z => z) ?_) | (refine kO 3 rfl ?_; first | refine rLdr rfl rfl rfl rfl rfl ?_ | refine rLdb rfl rfl rfl rfl rfl rfl rfl ?_ | refine rG (fun _ z => z) ?_) | (refine kO 4 rfl ?_; refine rG (fun _ z => z) ?_) | (refine kO 5 rfl ?_; refine rIdvN rfl rfl rfl rfl rfl rfl (by assumption) rfl ?_) | (refine kO 7 rfl ?_; refine rG (fun _ z => ⟨_, c, z⟩) ?_) | refine oN ?_ | refine aS ?_ | refine aR ?_ | refine aK ?_ | refine aB ?_ | refine aC rfl ?_ | refine bF ?_ | refine bPt (by omega) ?_ | refine bPf (by omega) ?_ | refine rG (fun _ z => ⟨(by (exact uvS rfl)), (by (exact lvS (by omega))), z⟩) ?_) <;> (try conv => whnf))
            all_goals first | (exfalso; omega) | (exact absurd rfl h) | (exact ⟨(i + 1, qs ++ [p]), ⟨⟨hlt, by dsimp only; omega⟩, hz⟩, by dsimp only; omega, canon_auto (by dsimp only; rw [e1, e2]; kernel_rfl)⟩)
        | none =>
          rw [hbd (hbad hx)]
          rw [hx, Option.isSome_none] at c
          repeat' ((first | refine oP rfl ?_ | refine rP rfl (fun _ z => z) ?_ | (refine kO 1 rfl ?_; refine rG (fun _ z => z) ?_) | (refine kO 2 rfl ?_; refine rG (fun _ z => z) ?_) | (refine kO 3 rfl ?_; refine rLdr rfl rfl rfl rfl rfl ?_) | (refine kO 4 rfl ?_; refine rG (fun _ z => z) ?_) | (refine kO 5 rfl ?_; refine rIdvN rfl rfl rfl rfl rfl rfl (by assumption) rfl ?_) | (refine kO 7 rfl ?_; refine rG (fun _ z => ⟨_, c, z⟩) ?_) | refine oN ?_ | refine aS ?_ | refine aR ?_ | refine aK ?_ | refine aB ?_ | refine aT ?_ | refine aC rfl ?_ | refine bT ?_ | refine bPt (by omega) ?_) <;> (try conv => whnf))
          all_goals (exact rfl)
      · obtain rfl : i = ps.length := by omega
        rw [List.take_length] at hg
        match qs, ha, hg with
        | [], ha, hg => exfalso; simp at ha; omega
        | q :: ch, ha, hg =>
          rw [hsm q ch hg]
          have hin := allO_all (P := SpI) (fun s x => spN_in) hg
          have c3 := checkRules_sat n q ch (hin q (by simp)) (fun s hs => hin s (by simp [hs])) (by simp at ha; omega)
          have e : endRul (some (n, q, ch)) = if rulesErr n q ch = 0 then ((n, q, ch), 0) else ((0, (0, 0, 0, 0), []), rulesErr n q ch) := rfl
          rw [e]
          generalize rulesErr n q ch = x at *
          by_cases hx : x = 0
          · rw [if_pos hx]
            repeat' ((first | refine oP rfl ?_ | refine rP rfl (fun _ z => z) ?_ | (refine kO 1 rfl ?_; refine rG (fun _ z => z) ?_) | (refine kO 3 rfl ?_; refine rG (fun _ z => z) ?_) | (refine kO 4 rfl ?_; refine rG (fun _ z => z) ?_) | (refine kO 7 rfl ?_; refine rG (fun _ z => ⟨_, c3, z⟩) ?_) | refine oN ?_ | refine aS ?_ | refine aR ?_ | refine aK ?_ | refine aX ?_ | refine aT ?_ | refine aC rfl ?_ | refine bPf (by omega) ?_) <;> (try conv => whnf))
            all_goals (exact rfl)
          · rw [if_neg hx]
            repeat' ((first | refine oP rfl ?_ | refine rP rfl (fun _ z => z) ?_ | (refine kO 1 rfl ?_; refine rG (fun _ z => z) ?_) | (refine kO 3 rfl ?_; refine rG (fun _ z => z) ?_) | (refine kO 4 rfl ?_; refine rG (fun _ z => z) ?_) | (refine kO 7 rfl ?_; refine rG (fun _ z => ⟨_, c3, z⟩) ?_) | refine oN ?_ | refine aS ?_ | refine aR ?_ | refine aX ?_ | refine aT ?_ | refine aC rfl ?_ | refine bPt (by omega) ?_ | refine bPf (by omega) ?_) <;> (try conv => whnf))
            all_goals (exact rfl)
end Go.Proofs.Tryz

namespace Go.Proofs.Tryz
open Go.Fw Go.IntWalk Go.Plain
set_option maxRecDepth 100000
set_option maxHeartbeats 8000000
theorem drop1_getD {ws : List (List UInt8)} {i : Nat} (h : 1 ≤ i) : (ws.drop 1).getD (i - 1) [] = ws.getD i [] := by
  simp only [List.getD_eq_getElem?_getD, List.getElem?_drop]
  rw [show 1 + (i - 1) = i by omega]
theorem refParseRules_sat (s : List UInt8) (hl : s.length ≤ 10000) : Sat cx.P cx.gl 14 [SS s] (.tup (PQ (endRul (rulPre (spl 59 s))))) := by
  obtain ⟨h3, h4⟩ := spl_len 59 s
  have h5 := spl_ne 59 s
  have c1 := cut_sat s 59 (by omega)
  rw [show (59 : UInt8).toNat = 59 from rfl, cutR_spl] at c1
  generalize spl 59 s = ws at *
  have hn := strs_len ws
  have h6 : 0 < ws.length := List.length_pos_iff.2 h5
  have he0 := strs_at h6
  have hw0 : (ws.getD 0 []).length ≤ 10000 := by
    have := h4 (ws.getD 0 []) (by rw [show ws.getD 0 [] = ws[0] by simp [List.getD_eq_getElem?_getD, h6]]; exact List.getElem_mem h6)
    omega
  obtain ⟨n, c0, k0⟩ := part_any (ws.getD 0 []) (by omega)
  cases hd : wN false 4 (ws.getD 0 []) with
  | none =>
    rw [hd, Option.isSome_none] at c0
    rw [rulPre_no hd]
    generalize ws.getD 0 [] = w at *
    refine Sat_of_awp (fn := f14) cx_ok (by kernel_rfl) (by kernel_rfl) rfl (by kernel_rfl) (Nat.le_of_ble_eq_true rfl) ?_
    repeat' ((first | refine oP rfl ?_ | refine rP rfl (fun _ z => z) ?_ | (refine kO 1 rfl ?_; refine rG (fun _ z => z) ?_) | (refine kO 2 rfl ?_; refine rG (fun _ z => z) ?_) | (refine kO 3 rfl ?_; refine rLdv rfl rfl rfl rfl rfl rfl (by assumption) ?_) | (refine kO 4 rfl ?_; refine rG (fun _ z => z) ?_) | (refine kO 5 rfl ?_; refine rIdoN rfl rfl rfl rfl rfl rfl rfl rfl (by (dsimp only [SC.len]; omega)) ?_) | (refine kO 7 rfl ?_; first | refine rG (fun _ z => ⟨_, c1, z⟩) ?_ | refine rG (fun _ z => ⟨_, c0, z⟩) ?_) | (refine kO 6 rfl ?_; refine rSLen rfl rfl rfl rfl rfl rfl ?_) | refine oN ?_ | refine aS ?_ | refine aR ?_ | refine aK ?_ | refine aT ?_ | refine aC rfl ?_ | refine bT ?_ | refine bPf (by omega) ?_ | refine oZ rfl rfl rfl ?_) <;> (try conv => whnf))
    all_goals first | (exact rfl) | (exfalso; omega)
  | some n' =>
    have hnn := k0 _ hd
    subst hnn
    rw [hd, Option.isSome_some] at c0
    have hsm := fun q ch => rulPre_some (q := q) (ch := ch) hd
    generalize ws.getD 0 [] = w at *
    by_cases h7 : ws.length < 2
    · have e : allO spN (ws.drop 1) = some [] := by rw [List.drop_of_length_le (by omega)]; rfl
      rw [rulPre_nil e]
      refine Sat_of_awp (fn := f14) cx_ok (by kernel_rfl) (by kernel_rfl) rfl (by kernel_rfl) (Nat.le_of_ble_eq_true rfl) ?_
      repeat' ((first | refine oP rfl ?_ | refine rP rfl (fun _ z => z) ?_ | (refine kO 1 rfl ?_; refine rG (fun _ z => z) ?_) | (refine kO 2 rfl ?_; refine rG (fun _ z => z) ?_) | (refine kO 3 rfl ?_; refine rLdv rfl rfl rfl rfl rfl rfl (by assumption) ?_) | (refine kO 4 rfl ?_; refine rG (fun _ z => z) ?_) | (refine kO 5 rfl ?_; refine rIdoN rfl rfl rfl rfl rfl rfl rfl rfl (by (dsimp only [SC.len]; omega)) ?_) | (refine kO 7 rfl ?_; first | refine rG (fun _ z => ⟨_, c1, z⟩) ?_ | refine rG (fun _ z => ⟨_, c0, z⟩) ?_) | (refine kO 6 rfl ?_; first | refine rSLen rfl rfl rfl rfl rfl rfl ?_ | refine rLenov rfl rfl rfl rfl rfl rfl rfl ?_) | refine oN ?_ | refine aS ?_ | refine aR ?_ | refine aK ?_ | refine aT ?_ | refine aC rfl ?_ | refine bPt (by omega) ?_ | refine bPf (by omega) ?_ | refine oY rfl rfl rfl ?_) <;> (try conv => whnf))
      all_goals (exact rfl)
    · have hbd := rulPre_bad (ws := ws)
      have hpn : (ws.drop 1).length = ws.length - 1 := by simp
      have hgt := fun i => drop1_getD (ws := ws) (i := i)
      have hwl : ∀ w ∈ ws, w.length ≤ 10000 := fun w hw => by have := h4 w hw; omega
      generalize hpd : ws.drop 1 = ps at *
      refine Sat_of_awp (fn := f14) cx_ok (by kernel_rfl) (by kernel_rfl) rfl (by kernel_rfl) (Nat.le_of_ble_eq_true rfl) ?_
      repeat ((first | refine oP rfl ?_ | refine rP rfl (fun _ z => z) ?_ | (refine kO 1 rfl ?_; refine rG (fun _ z => z) ?_) | (refine kO 2 rfl ?_; refine rG (fun _ z => z) ?_) | (refine kO 3 rfl ?_; refine rLdv rfl rfl rfl rfl rfl rfl (by assumption) ?_) | (refine kO 4 rfl ?_; refine rG (fun _ z => z) ?_) | (refine kO 5 rfl ?_; refine rIdoN rfl rfl rfl rfl rfl rfl rfl rfl (by (dsimp only [SC.len]; omega)) ?_) | (refine kO 7 rfl ?_; first | refine rG (fun _ z => ⟨_, c1, z⟩) ?_ | refine rG (fun _ z => ⟨_, c0, z⟩) ?_) | (refine kO 6 rfl ?_; first | refine rSLen rfl rfl rfl rfl rfl rfl ?_ | refine rLenov rfl rfl rfl rfl rfl rfl rfl ?_) | refine oN ?_ | refine aS ?_ | refine aR ?_ | refine aK ?_ | refine aB ?_ | refine aC rfl ?_ | refine bPf (by omega) ?_ | refine aL ?_ | refine oY rfl rfl rfl ?_); (try conv => whnf))
      refine loop_ind (ι := Nat × List Sp) (fun p => (1 ≤ p.1 ∧ p.1 ≤ ws.length ∧ p.2.length = p.1 - 1) ∧ allO spN (ps.take (p.1 - 1)) = some p.2) (fun p => ws.length - p.1)
        (fun p => ⟨[(2, pP 0), (4, pO 1), (7, pP 2), (8, vI p.1)], [(0, some (.box 31 [.st (J 0), .st (J 0), .st (J 0), .st (J 0), .st (J 0), .nil])), (1, some (.row true 1 (.view (strs ws)))), (2, some (.box 31 [.st (J n), .st (J (p.2.getD 0 z4).1), .st (J (p.2.getD 0 z4).2.1), .st (J (p.2.getD 0 z4).2.2.1), .st (J (p.2.getD 0 z4).2.2.2), .own 3])), (3, some (.row true 4 (.view ((p.2.drop 1).map sp))))], 4⟩)
        (1, []) (by
          refine Sub.trans (nilb_sub 26 5 4 (.view []) (T := 31) (cs := [.st (J n), .st (J 0), .st (J 0), .st (J 0), .st (J 0), .nil]) (by decide) rfl rfl rfl rfl) ?_
          exact canon_auto (by kernel_rfl)) ⟨⟨Nat.le_refl _, by dsimp only; omega, rfl⟩, rfl⟩ ?_
      rintro ⟨i, qs⟩ ⟨⟨hi0, hi, ha⟩, hg⟩
      dsimp only at hi0 hi ha hg ⊢
      by_cases hlt : i < ws.length
      · have he := strs_at hlt
        have hwl : (ws.getD i []).length ≤ 10000 := hwl _ (by rw [show ws.getD i [] = ws[i] by simp [List.getD_eq_getElem?_getD, hlt]]; exact List.getElem_mem hlt)
        have hz := fun n => allO_snoc (by omega) hg (n := n)
        have hbad := allO_bad (f := spN) (l := ps) (i := i - 1) (by omega)
        rw [show i - 1 + 1 = i + 1 - 1 by omega, hgt i hi0] at hz
        rw [hgt i hi0] at hbad
        generalize ws.getD i [] = x at *
        obtain ⟨q, c, k⟩ := refSp_any x (by omega)
        cases hx : spN x with
        | some p =>
          have hpq := k p hx
          subst hpq
          have hz := hz _ hx
          rw [hx, Option.isSome_some] at c
          by_cases h0 : i = 1
          · have hl0 : qs = [] := List.eq_nil_of_length_eq_zero (by omega)
            subst hl0
            repeat' ((first | refine oP rfl ?_ | refine rP rfl (fun _ z => z) ?_ | (refine kO 1 rfl ?_; first | refine rAdd rfl rfl rfl (by omega) ?_ | refine rG (fun _ z => z) ?_) | (refine kO 2 rfl ?_; refine rG (fun _ z => z) ?_) | (refine kO 3 rfl ?_; first | refine rLdv rfl rfl rfl rfl rfl rfl (by assumption) ?_ | refine rG (fun _ z => z) ?_) | (refine kO 4 rfl ?_; refine rG (fun _ z => z) ?_) | (refine kO 5 rfl ?_; refine rIdoN rfl rfl rfl rfl rfl rfl rfl rfl (by (dsimp only [SC.len]; omega)) ?_) | (refine kO 7 rfl ?_; refine rG (fun _ z => ⟨_, c, z⟩) ?_) | (refine kO 6 rfl ?_; refine rLenov rfl rfl rfl rfl rfl rfl rfl ?_) | refine oN ?_ | refine aS ?_ | refine aR ?_ | refine aK ?_ | refine aB ?_ | refine aC rfl ?_ | refine bF ?_ | refine bPt (by omega) ?_) <;> (try conv => whnf))
            all_goals (exact ⟨(i + 1, [p]), ⟨⟨by dsimp only; omega, hlt, by dsimp only [List.length_cons, List.length_nil]; omega⟩, hz⟩, by dsimp only; omega, canon_auto (by kernel_rfl)⟩)
          · have e1 : (qs ++ [p]).getD 0 z4 = qs.getD 0 z4 := by
              cases qs with
              | nil => simp at ha; omega
              | cons a b => rfl
            have e2 : ((qs ++ [p]).drop 1).map sp = (qs.drop 1).map sp ++ [sp p] := by
              cases qs with
              | nil => simp at ha; omega
              | cons a b => simp
            have hap : (qs ++ [p]).length = qs.length + 1 := by simp
            have hcl : ((qs.drop 1).map sp).length = qs.length - 1 := by simp
            have u := sp_uni (qs.drop 1) p
            generalize hC : (qs.drop 1).map sp = C at *
            generalize hQ : qs.getD 0 z4 = Q at *
            have hcl2 : (C ++ [sp p]).length = C.length + 1 := by simp
            repeat' ((first | refine oP rfl ?_ | refine rP rfl (fun _ z => z) ?_ | (refine kO 1 rfl ?_; first | refine rAdd rfl rfl rfl (by omega) ?_ | refine rG (fun _ z => z) ?_) | (refine kO 2 rfl ?_; refine rG (fun _ z => z) ?_) | (refine kO 3 rfl ?_; first | refine rLdv rfl rfl rfl rfl rfl rfl (by assumption) ?_ | refine rLdb rfl rfl rfl rfl rfl rfl rfl ?_ | refine rG (fun _ z => z) ?_) | (refine kO 4 rfl ?_; refine rG (fun _ z => z) ?_) | (refine kO 5 rfl ?_; refine rIdoN rfl rfl rfl rfl rfl rfl rfl rfl (by (dsimp only [SC.len]; omega)) ?_) | (refine kO 7 rfl ?_; refine rG (fun _ z => ⟨_, c, z⟩) ?_) | (refine kO 6 rfl ?_; refine rLenov rfl rfl rfl rfl rfl rfl rfl ?_) | refine oN ?_ | refine aS ?_ | refine aR ?_ | refine aK ?_ | refine aB ?_ | refine aC rfl ?_ | refine bF ?_ | refine bPt (by omega) ?_ | refine bPf (by omega) ?_ | refine rG (fun _ z => ⟨(by (exact uvS rfl)), (by (exact lvS (by omega))), z⟩) ?_) <;> (try conv => whnf))
            all_goals first | (exfalso; omega) | (exact absurd rfl h) | (exact ⟨(i + 1, qs ++ [p]), ⟨⟨by dsimp only; omega, hlt, by dsimp only; omega⟩, hz⟩, by dsimp only; omega, canon_auto (by dsimp only; rw [e1, e2]; kernel_rfl)⟩)
        | none =>
          rw [hbd (hbad hx)]
          rw [hx, Option.isSome_none] at c
          repeat' ((first | refine oP rfl ?_ | refine rP rfl (fun _ z => z) ?_ | (refine kO 1 rfl ?_; refine rG (fun _ z => z) ?_) | (refine kO 2 rfl ?_; refine rG (fun _ z => z) ?_) | (refine kO 3 rfl ?_; refine rLdv rfl rfl rfl rfl rfl rfl (by assumption) ?_) | (refine kO 4 rfl ?_; refine rG (fun _ z => z) ?_) | (refine kO 5 rfl ?_; refine rIdoN rfl rfl rfl rfl rfl rfl rfl rfl (by (dsimp only [SC.len]; omega)) ?_) | (refine kO 7 rfl ?_; refine rG (fun _ z => ⟨_, c, z⟩) ?_) | (refine kO 6 rfl ?_; refine rLenov rfl rfl rfl rfl rfl rfl rfl ?_) | refine oN ?_ | refine aS ?_ | refine aR ?_ | refine aK ?_ | refine aB ?_ | refine aT ?_ | refine aC rfl ?_ | refine bT ?_ | refine bPt (by omega) ?_) <;> (try conv => whnf))
          all_goals (exact rfl)
      · obtain rfl : i = ws.length := by omega
        rw [List.take_of_length_le (by omega)] at hg
        match qs, ha, hg with
        | [], ha, hg => exfalso; simp at ha; omega
        | q :: ch, ha, hg =>
          rw [hsm q ch hg]
          have hin := allO_all (P := SpI) (fun s x => spN_in) hg
          have c3 := refRulesErr_sat n q ch (hin q (by simp)) (fun s hs => hin s (by simp [hs]))
          have e : endRul (some (n, q, ch)) = if rulesErr n q ch = 0 then ((n, q, ch), 0) else ((0, (0, 0, 0, 0), []), rulesErr n q ch) := rfl
          rw [e]
          generalize rulesErr n q ch = x at *
          by_cases hx : x = 0
          · rw [if_pos hx]
            repeat' ((first | refine oP rfl ?_ | refine rP rfl (fun _ z => z) ?_ | (refine kO 1 rfl ?_; refine rG (fun _ z => z) ?_) | (refine kO 3 rfl ?_; refine rG (fun _ z => z) ?_) | (refine kO 4 rfl ?_; refine rG (fun _ z => z) ?_) | (refine kO 7 rfl ?_; refine rG (fun _ z => ⟨_, c3, z⟩) ?_) | (refine kO 6 rfl ?_; refine rLenov rfl rfl rfl rfl rfl rfl rfl ?_) | refine oN ?_ | refine aS ?_ | refine aR ?_ | refine aK ?_ | refine aX ?_ | refine aT ?_ | refine aC rfl ?_ | refine bPf (by omega) ?_) <;> (try conv => whnf))
            all_goals (exact rfl)
          · rw [if_neg hx]
            repeat' ((first | refine oP rfl ?_ | refine rP rfl (fun _ z => z) ?_ | (refine kO 1 rfl ?_; refine rG (fun _ z => z) ?_) | (refine kO 3 rfl ?_; refine rG (fun _ z => z) ?_) | (refine kO 4 rfl ?_; refine rG (fun _ z => z) ?_) | (refine kO 7 rfl ?_; refine rG (fun _ z => ⟨_, c3, z⟩) ?_) | (refine kO 6 rfl ?_; refine rLenov rfl rfl rfl rfl rfl rfl rfl ?_) | refine oN ?_ | refine aS ?_ | refine aR ?_ | refine aX ?_ | refine aT ?_ | refine aC rfl ?_ | refine bPt (by omega) ?_ | refine bPf (by omega) ?_) <;> (try conv => whnf))
            all_goals (exact rfl)
end Go.Proofs.Tryz
