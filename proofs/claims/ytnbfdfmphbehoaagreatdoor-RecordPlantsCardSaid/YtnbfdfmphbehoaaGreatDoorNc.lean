/- Parts of the proof, joined. -/

import Derived.Test.YtnbfdfmphbehoaaGreatDoorFe
import Derived.Test.YtnbfdfmphbehoaaGreatDoorNb
namespace Go.Proofs.Tryz
open Go.Fw Go.IntWalk Go.Plain
set_option maxRecDepth 100000
set_option maxHeartbeats 8000000
abbrev bxP (p : Pl) : Blk := .box 27 ((plC p).map .st)
theorem peE_a {p : Pl} {i : Nat} (h : nmAt p.pnames i ≠ 0) : p.peopleE i = nmAt p.pnames i := by unfold Pl.peopleE; exact orE_no h _
theorem peE_b {p : Pl} {i : Nat} (h : nmAt p.pnames i = 0) : p.peopleE i = if 0 ≤ (p.people.getD i ([], 0)).2 ∧ (p.people.getD i ([], 0)).2 ≤ 3 then 0 else 15 := by unfold Pl.peopleE; rw [h, orE_0]
theorem orP_no {a b : Int × Int} (h : a.2 ≠ 0) : orP a b = a := if_pos h
theorem orP_z {a b : Int × Int} (h : a.2 = 0) : orP a b = b := if_neg (by simpa using h)
theorem cnt_s {n m : Nat} (h : n = 0) : cntE n m = 10 := by subst h; rfl
theorem cnt_l {n m : Nat} (h0 : 0 < n) (h : m < n) : cntE n m = 8 := by unfold cntE; rw [if_pos h0, if_neg (by omega)]
theorem cnt_o {n m : Nat} (h0 : 0 < n) (h : n ≤ m) : cntE n m = 0 := by unfold cntE; rw [if_pos h0, if_pos h]
theorem refPeople_sat {p : Pl} (hs : Small p) : Sat cx.P cx.gl 69 [(true, plC p)] (.tup (two (orP (0, cntE p.people.length 8) (scanA p.peopleE p.people.length)))) := by
  have hn : (p.people.map peC).length = p.people.length := by simp
  have hnl : p.pnames.length = p.people.length := by simp [Pl.pnames]
  have hpe := hs.pe
  by_cases h0 : p.people.length = 0
  · rw [orP_no (by rw [cnt_s h0]; decide), cnt_s h0]
    refine sF f69 ?_
    repeat' ((first | refine tG ?_ | exact True.intro | refine brp (fun h => ?_) fun h => ?_ | refine opsA_ifp rfl rfl rfl (fun h => ?_) fun h => ?_ | refine opsA_unlessp rfl rfl rfl (fun h => ?_) fun h => ?_) <;> (try conv => whnf))
    all_goals first | (exfalso; omega) | rfl
  by_cases h8 : 8 < p.people.length
  · rw [orP_no (by rw [cnt_l (by omega) h8]; decide), cnt_l (by omega) h8]
    refine sF f69 ?_
    repeat' ((first | refine tG ?_ | exact True.intro | refine brp (fun h => ?_) fun h => ?_ | refine opsA_ifp rfl rfl rfl (fun h => ?_) fun h => ?_ | refine opsA_unlessp rfl rfl rfl (fun h => ?_) fun h => ?_) <;> (try conv => whnf))
    all_goals first | (exfalso; omega) | rfl
  rw [orP_z (by rw [cnt_o (by omega) (by omega)])]
  refine sF f69 ?_
  (try (refine tG ?_; try exact True.intro))
  refine loop_ind (ι := Nat) (fun i => i ≤ p.people.length ∧ ∀ j < i, p.peopleE j = 0) (fun i => p.people.length - i) (fun i => ⟨[(1, pP 0), (4, pO 1), (5, vI i)], [(0, some (bxP p)), (1, some (.row true 1 (.view (strs (p.pnames.take i)))))], 2⟩) 0 (Sub.trans (nil_sub 4 1 (.view []) (by decide) rfl rfl rfl) cA) ⟨Nat.zero_le _, fun j hj => by omega⟩ ?_
  rintro i ⟨hi, hp⟩
  by_cases hlt : i < p.people.length
  · have he := map_at (f := peC) hlt ([], 0)
    have hg : p.pnames.getD i [] = (p.people.getD i ([], 0)).1 := by rw [getD_at hlt, getD_at (by omega)]; simp [Pl.pnames]
    have hts := take_succ (l := p.pnames) (i := i) (by omega)
    have hne := refNameErr_sat (p.pnames.take (i + 1)) i (by simp; omega) (by simp; omega) (by rw [show (p.pnames.take (i + 1)).getD i [] = p.pnames.getD i [] by simp [List.getD_eq_getElem?_getD], hg]; exact hs.pn i hlt)
    rw [nmAt_take (by omega)] at hne
    have hea := peE_a (p := p) (i := i)
    have heb := peE_b (p := p) (i := i)
    have hret := fun (h : p.peopleE i ≠ 0) => scanA_at (f := p.peopleE) hlt hp h
    have hnx := fun (h : p.peopleE i = 0) => all_succ hp h
    have hll : (strs (p.pnames.take i)).length ≤ 1000 := by simp; omega
    rw [hg] at hts
    rw [hts] at hne
    delta V1 at hne
    rw [strs_snocN] at hne
    generalize p.people.getD i ([], 0) = x at *
    generalize nmAt p.pnames i = e at *
    by_cases h1 : e = 0
    · have heb := heb h1
      by_cases h2 : 0 ≤ x.2 ∧ x.2 ≤ 3
      · rw [if_pos h2] at heb
        repeat' ((first | (refine kO 7 rfl ?_; first | refine rG (fun _ z => ⟨_, hne, z⟩) ?_ | refine rG (fun _ z => ⟨_, within_sat _ _ _, z⟩) ?_) | refine tG ?_ | exact True.intro | refine brp (fun h => ?_) fun h => ?_ | refine opsA_ifp rfl rfl rfl (fun h => ?_) fun h => ?_ | refine opsA_unlessp rfl rfl rfl (fun h => ?_) fun h => ?_) <;> (try conv => whnf))
        all_goals first | (exfalso; omega) | exact ⟨i + 1, ⟨hlt, hnx heb⟩, by omega, canon_auto (by rw [hts, strs_snocN]; kernel_rfl)⟩
      · rw [if_neg h2] at heb
        rw [hret (by rw [heb]; decide), heb]
        repeat' ((first | (refine kO 7 rfl ?_; first | refine rG (fun _ z => ⟨_, hne, z⟩) ?_ | refine rG (fun _ z => ⟨_, within_sat _ _ _, z⟩) ?_) | refine tG ?_ | exact True.intro | refine brp (fun h => ?_) fun h => ?_ | refine opsA_ifp rfl rfl rfl (fun h => ?_) fun h => ?_ | refine opsA_unlessp rfl rfl rfl (fun h => ?_) fun h => ?_) <;> (try conv => whnf))
        all_goals first | (exfalso; omega) | rfl
    · rw [hret (by rw [hea h1]; exact h1), hea h1]
      repeat' ((first | (refine kO 7 rfl ?_; first | refine rG (fun _ z => ⟨_, hne, z⟩) ?_ | refine rG (fun _ z => ⟨_, within_sat _ _ _, z⟩) ?_) | refine tG ?_ | exact True.intro | refine brp (fun h => ?_) fun h => ?_ | refine opsA_ifp rfl rfl rfl (fun h => ?_) fun h => ?_ | refine opsA_unlessp rfl rfl rfl (fun h => ?_) fun h => ?_) <;> (try conv => whnf))
      all_goals first | (exfalso; omega) | rfl
  · obtain rfl : i = p.people.length := by omega
    rw [scanA_no hp]
    repeat' ((first | refine tG ?_ | exact True.intro | refine brp (fun h => ?_) fun h => ?_ | refine opsA_ifp rfl rfl rfl (fun h => ?_) fun h => ?_ | refine opsA_unlessp rfl rfl rfl (fun h => ?_) fun h => ?_) <;> (try conv => whnf))
    all_goals first | (exfalso; omega) | rfl
theorem refGates_sat {p : Pl} (hs : Small p) : Sat cx.P cx.gl 70 [(true, plC p)] (.tup (two (orP (0, cntE p.gates.length 4) (scanA (nmAt p.gates) p.gates.length)))) := by
  have hn : (strs p.gates).length = p.gates.length := by simp
  have hga := hs.ga
  by_cases h0 : p.gates.length = 0
  · rw [orP_no (by rw [cnt_s h0]; decide), cnt_s h0]
    refine sF f70 ?_
    repeat' ((first | refine tG ?_ | exact True.intro | refine brp (fun h => ?_) fun h => ?_ | refine opsA_ifp rfl rfl rfl (fun h => ?_) fun h => ?_ | refine opsA_unlessp rfl rfl rfl (fun h => ?_) fun h => ?_) <;> (try conv => whnf))
    all_goals first | (exfalso; omega) | rfl
  by_cases h8 : 4 < p.gates.length
  · rw [orP_no (by rw [cnt_l (by omega) h8]; decide), cnt_l (by omega) h8]
    refine sF f70 ?_
    repeat' ((first | refine tG ?_ | exact True.intro | refine brp (fun h => ?_) fun h => ?_ | refine opsA_ifp rfl rfl rfl (fun h => ?_) fun h => ?_ | refine opsA_unlessp rfl rfl rfl (fun h => ?_) fun h => ?_) <;> (try conv => whnf))
    all_goals first | (exfalso; omega) | rfl
  rw [orP_z (by rw [cnt_o (by omega) (by omega)])]
  refine sF f70 ?_
  (try (refine tG ?_; try exact True.intro))
  refine loop_ind (ι := Nat) (fun i => i ≤ p.gates.length ∧ ∀ j < i, nmAt p.gates j = 0) (fun i => p.gates.length - i) (fun i => ⟨[(1, pP 0), (4, vI i)], [(0, some (bxP p))], 1⟩) 0 cA ⟨Nat.zero_le _, fun j hj => by omega⟩ ?_
  rintro i ⟨hi, hp⟩
  by_cases hlt : i < p.gates.length
  · have hne := refNameErr_sat p.gates i hlt hga (hs.gn i hlt)
    have hret := fun (h : nmAt p.gates i ≠ 0) => scanA_at (f := nmAt p.gates) hlt hp h
    have hnx := fun (h : nmAt p.gates i = 0) => all_succ (f := nmAt p.gates) hp h
    by_cases h1 : nmAt p.gates i = 0
    · rw [h1] at hne
      repeat' ((first | (refine kO 7 rfl ?_; first | refine rG (fun _ z => ⟨_, hne, z⟩) ?_) | refine tG ?_ | exact True.intro | refine brp (fun h => ?_) fun h => ?_ | refine opsA_ifp rfl rfl rfl (fun h => ?_) fun h => ?_ | refine opsA_unlessp rfl rfl rfl (fun h => ?_) fun h => ?_) <;> (try conv => whnf))
      all_goals first | (exfalso; omega) | exact ⟨i + 1, ⟨hlt, hnx h1⟩, by omega, cA⟩ | (exact absurd rfl h)
    · rw [hret h1]
      generalize nmAt p.gates i = e at *
      repeat' ((first | (refine kO 7 rfl ?_; first | refine rG (fun _ z => ⟨_, hne, z⟩) ?_) | refine tG ?_ | exact True.intro | refine brp (fun h => ?_) fun h => ?_ | refine opsA_ifp rfl rfl rfl (fun h => ?_) fun h => ?_ | refine opsA_unlessp rfl rfl rfl (fun h => ?_) fun h => ?_) <;> (try conv => whnf))
      all_goals first | (exfalso; omega) | rfl
  · obtain rfl : i = p.gates.length := by omega
    rw [scanA_no hp]
    repeat' ((first | refine tG ?_ | exact True.intro | refine brp (fun h => ?_) fun h => ?_ | refine opsA_ifp rfl rfl rfl (fun h => ?_) fun h => ?_ | refine opsA_unlessp rfl rfl rfl (fun h => ?_) fun h => ?_) <;> (try conv => whnf))
    all_goals first | (exfalso; omega) | rfl
end Go.Proofs.Tryz
namespace Go.Proofs.Tryz
open Go.Fw Go.IntWalk Go.Plain
set_option maxRecDepth 100000
set_option maxHeartbeats 8000000
theorem teE_a {p : Pl} {i : Nat} (h : nmAt (tnm p.tests) i ≠ 0) : p.testE reF i = nmAt (tnm p.tests) i := by unfold Pl.testE; exact orE_no h _
theorem teE_b {p : Pl} {i : Nat} (h : nmAt (tnm p.tests) i = 0) : p.testE reF i = tsE reF p.tests i := by unfold Pl.testE; rw [h, orE_0]
theorem among_at {l all : List Str} {k : Nat} (h : k < l.length) (h0 : ∀ j < k, amE l all j = 0) (h1 : amE l all k ≠ 0) : among l all = amE l all k := by unfold among; rw [scanA_at h h0 h1]
theorem among_no {l all : List Str} (h0 : ∀ j < l.length, amE l all j = 0) : among l all = 0 := by unfold among; rw [scanA_no h0]
theorem refTestErr_sat {p : Pl} (hs : Small p) (i : Nat) (hlt : i < p.tests.length) : Sat cx.P cx.gl 99 [(true, plC p), (false, [.view (strs ((tnm p.tests).take (i + 1)))]), I i] (.one (I (p.testE reF i))) := by
  have hnl : (tnm p.tests).length = p.tests.length := by simp [tnm]
  have hll : (p.tests.map tsC).length = p.tests.length := by simp
  have hte := hs.te
  have he := kinds_eq hlt
  have hnd1 := hs.td i hlt
  have hru := hs.tr i hlt
  have hnm := hs.tn i hlt
  have hne := refNameErr_sat ((tnm p.tests).take (i + 1)) i (by simp; omega) (by simp; omega) (by rw [show ((tnm p.tests).take (i + 1)).getD i [] = (tnm p.tests).getD i [] by simp [List.getD_eq_getElem?_getD, hnl, hlt], tnm_get hlt]; exact hnm)
  rw [nmAt_take (by omega)] at hne
  delta V1 at hne
  have ea := teE_a (p := p) (i := i)
  have eb := teE_b (p := p) (i := i)
  have ta := tsE_a (re := reF) (l := p.tests) (i := i)
  have tb := tsE_b (re := reF) (l := p.tests) (i := i)
  have tc := tsE_c (re := reF) (l := p.tests) (i := i)
  have td := tsE_d (re := reF) (l := p.tests) (i := i)
  have hpr := refParseRules_sat (p.tests.getD i ts0).rules hru
  have hre : (endRul (rulPre (spl 59 (p.tests.getD i ts0).rules))).2 = reF (p.tests.getD i ts0).rules := rfl
  have hcm : cmpE p.tests (p.tests.getD i ts0) = if (p.tests.getD i ts0).kind = 2 then (if (p.tests.getD i ts0).needs.length = 0 then 10 else if (p.tests.getD (idxI (tnm p.tests) ((p.tests.getD i ts0).needs.getD 0 [])).toNat ts0).kind = 1 then 0 else 3) else 0 := rfl
  have htk : (strs ((tnm p.tests).take (i + 1))).take i = strs ((tnm p.tests).take i) := by rw [← List.map_take, List.take_take, Nat.min_eq_left (by omega)]
  have htl : (strs ((tnm p.tests).take (i + 1))).length = i + 1 := by simp; omega
  have hai := fun k => among_at (k := k) (l := (p.tests.getD i ts0).needs) (all := (tnm p.tests).take i)
  have han := among_no (l := (p.tests.getD i ts0).needs) (all := (tnm p.tests).take i)
  have hz := among_zero (l := (p.tests.getD i ts0).needs) (all := (tnm p.tests).take i)
  have hpl : plC p = [.view (p.people.map peC), .view (strs p.gates), .view (p.tests.map tsC), .view (p.parts.map ptC), J p.shock, J p.life] := rfl
  generalize ht : p.tests.getD i ts0 = t at *
  rcases t with ⟨nm, kd, nd, ru, lo, hi⟩
  have he : (p.tests.map tsC)[i]? = some [T nm, J kd, .view (strs nd), T ru, J lo, J hi] := he
  dsimp only at *
  have hnd : (strs nd).length = nd.length := by simp
  have hpr : Sat cx.P cx.gl 117 [SS ru] (.tup [Ru (endRul (rulPre (spl 59 ru))).1.1 (endRul (rulPre (spl 59 ru))).1.2.1 (endRul (rulPre (spl 59 ru))).1.2.2, I (reF ru)]) := hpr
  by_cases h0 : nmAt (tnm p.tests) i = 0
  · rw [eb h0]
    rw [h0] at hne
    by_cases h1 : 0 ≤ kd ∧ kd ≤ 3
    · refine sF f99 ?_
      repeat ((first | (refine kO 7 rfl ?_; first | refine rG (fun _ z => ⟨_, hne, z⟩) ?_ | refine rG (fun _ z => ⟨_, within_sat _ _ _, z⟩) ?_) | refine tG ?_ | exact True.intro); (try conv => whnf))
      refine loop_ind (ι := Nat) (fun k => k ≤ nd.length ∧ ∀ j < k, amE nd ((tnm p.tests).take i) j = 0) (fun k => nd.length - k) (fun k => ⟨[(1, some (.val (false, [.st (.view (strs ((tnm p.tests).take (i + 1))))]))), (2, vI i), (3, pP 0), (7, pP 1), (9, vI k)], [(0, some (bxP p)), (1, some (.box 89 [.st (T nm), .st (J kd), .st (.view (strs nd)), .st (T ru), .st (J lo), .st (J hi)]))], 2⟩) 0 cA ⟨Nat.zero_le _, fun j hj => by omega⟩ ?_
      rintro k ⟨hk, hp⟩
      by_cases hkl : k < nd.length
      · have hek := sA hkl
        have hfk : amE nd ((tnm p.tests).take i) k = if nd.getD k [] ∈ (tnm p.tests).take i then (if nd.getD k [] ∈ nd.take k then 23 else 0) else 6 := rfl
        have hnx := fun (h : amE nd ((tnm p.tests).take i) k = 0) => all_succ (f := amE nd ((tnm p.tests).take i)) hp h
        have hra := hai k hkl hp
        have c1 : Sat cx.P cx.gl 74 [(false, [.view (strs (((tnm p.tests).take (i + 1)).take i))]), SS (nd.getD k [])] (.one (Bo (decide (nd.getD k [] ∈ (tnm p.tests).take i)))) := by
          rw [List.take_take, Nat.min_eq_left (by omega)]
          exact hasText_sat _ _ (by simp; omega)
        have c2 : Sat cx.P cx.gl 74 [(false, [.view (strs (nd.take k))]), SS (nd.getD k [])] (.one (Bo (decide (nd.getD k [] ∈ nd.take k)))) := hasText_sat _ _ (by simp; omega)
        have htk2 : (strs nd).take k = strs (nd.take k) := by simp
        generalize nd.getD k [] = s at *
        by_cases q1 : s ∈ (tnm p.tests).take i
        · rw [if_pos q1] at hfk
          rw [decide_eq_true q1] at c1
          by_cases q2 : s ∈ nd.take k
          · rw [if_pos q2] at hfk
            rw [decide_eq_true q2] at c2
            rw [tb h1 (by rw [hra (by rw [hfk]; decide), hfk]; decide), hra (by rw [hfk]; decide), hfk]
            repeat' ((first | (refine kO 7 rfl ?_; first | refine rG (fun _ z => ⟨_, c1, z⟩) ?_ | refine rG (fun _ z => ⟨_, c2, z⟩) ?_) | refine tG ?_ | exact True.intro | refine brp (fun h => ?_) fun h => ?_ | refine opsA_ifp rfl rfl rfl (fun h => ?_) fun h => ?_ | refine opsA_unlessp rfl rfl rfl (fun h => ?_) fun h => ?_) <;> (try conv => whnf))
            all_goals first | (exfalso; omega) | rfl
          · rw [if_neg q2] at hfk
            rw [decide_eq_false q2] at c2
            repeat' ((first | (refine kO 7 rfl ?_; first | refine rG (fun _ z => ⟨_, c1, z⟩) ?_ | refine rG (fun _ z => ⟨_, c2, z⟩) ?_) | refine tG ?_ | exact True.intro | refine brp (fun h => ?_) fun h => ?_ | refine opsA_ifp rfl rfl rfl (fun h => ?_) fun h => ?_ | refine opsA_unlessp rfl rfl rfl (fun h => ?_) fun h => ?_) <;> (try conv => whnf))
            all_goals first | (exfalso; omega) | exact ⟨k + 1, ⟨hkl, hnx hfk⟩, by omega, cA⟩
        · rw [if_neg q1] at hfk
          rw [decide_eq_false q1] at c1
          rw [tb h1 (by rw [hra (by rw [hfk]; decide), hfk]; decide), hra (by rw [hfk]; decide), hfk]
          repeat' ((first | (refine kO 7 rfl ?_; first | refine rG (fun _ z => ⟨_, c1, z⟩) ?_ | refine rG (fun _ z => ⟨_, c2, z⟩) ?_) | refine tG ?_ | exact True.intro | refine brp (fun h => ?_) fun h => ?_ | refine opsA_ifp rfl rfl rfl (fun h => ?_) fun h => ?_ | refine opsA_unlessp rfl rfl rfl (fun h => ?_) fun h => ?_) <;> (try conv => whnf))
          all_goals first | (exfalso; omega) | rfl
      · obtain rfl : k = nd.length := by omega
        have hA := han hp
        have hz := hz hA
        clear hai han ta tb hne
        have tc := tc h1 hA
        have td := td h1 hA
        by_cases h3 : kd = 2
        · rw [if_pos h3] at hcm
          by_cases h4 : nd.length = 0
          · rw [if_pos h4] at hcm
            rw [tc (by rw [hcm]; decide), hcm]
            repeat' ((first | refine tG ?_ | exact True.intro | refine brp (fun h => ?_) fun h => ?_ | refine opsA_ifp rfl rfl rfl (fun h => ?_) fun h => ?_ | refine opsA_unlessp rfl rfl rfl (fun h => ?_) fun h => ?_) <;> (try conv => whnf))
            all_goals first | (exfalso; omega) | rfl
          · have hlt0 : 0 < nd.length := by omega
            obtain ⟨hm0, _⟩ := hz 0 hlt0
            have he0 := sA hlt0
            obtain ⟨k0, hk1, hk0⟩ := idx_in (List.mem_of_mem_take hm0)
            have hix := refTestOf_sat p (nd.getD 0 []) hte
            rw [hk0, hpl] at hix
            have hk2 : k0 < p.tests.length := by omega
            have hek := kinds_eq hk2
            rw [if_neg h4, hk0, Int.toNat_natCast] at hcm
            generalize nd.getD 0 [] = n0 at *
            generalize p.tests.getD k0 ts0 = t0 at *
            rcases t0 with ⟨nm0, kd0, nd0, ru0, lo0, hi0⟩
            have hek : (p.tests.map tsC)[k0]? = some [T nm0, J kd0, .view (strs nd0), T ru0, J lo0, J hi0] := hek
            dsimp only at hcm
            by_cases h5 : kd0 = 1
            · rw [if_pos h5] at hcm
              rw [td hcm, if_pos (show isImp kd from .inr h3)]
              by_cases h6 : reF ru = 0
              · rw [h6, orE_0]
                rw [h6] at hpr
                repeat' ((first | (refine kO 7 rfl ?_; first | refine rG (fun _ z => ⟨_, hix, z⟩) ?_ | refine rG (fun _ z => ⟨_, hpr, z⟩) ?_ | refine rG (fun _ z => ⟨_, within_sat _ _ _, z⟩) ?_) | refine tG ?_ | exact True.intro | refine brp (fun h => ?_) fun h => ?_ | refine opsA_ifp rfl rfl rfl (fun h => ?_) fun h => ?_ | refine opsA_unlessp rfl rfl rfl (fun h => ?_) fun h => ?_) <;> (try conv => whnf))
                all_goals first | (exfalso; omega) | exact resI (by unfold limE; split <;> (try split) <;> omega)
              · rw [orE_no h6]
                generalize reF ru = e at *
                repeat' ((first | (refine kO 7 rfl ?_; first | refine rG (fun _ z => ⟨_, hix, z⟩) ?_ | refine rG (fun _ z => ⟨_, hpr, z⟩) ?_) | refine tG ?_ | exact True.intro | refine brp (fun h => ?_) fun h => ?_ | refine opsA_ifp rfl rfl rfl (fun h => ?_) fun h => ?_ | refine opsA_unlessp rfl rfl rfl (fun h => ?_) fun h => ?_) <;> (try conv => whnf))
                all_goals first | (exfalso; omega) | rfl
            · rw [if_neg h5] at hcm
              rw [tc (by rw [hcm]; decide), hcm]
              repeat' ((first | (refine kO 7 rfl ?_; first | refine rG (fun _ z => ⟨_, hix, z⟩) ?_) | refine tG ?_ | exact True.intro | refine brp (fun h => ?_) fun h => ?_ | refine opsA_ifp rfl rfl rfl (fun h => ?_) fun h => ?_ | refine opsA_unlessp rfl rfl rfl (fun h => ?_) fun h => ?_) <;> (try conv => whnf))
              all_goals first | (exfalso; omega) | rfl
        · rw [if_neg h3] at hcm
          rw [td hcm]
          by_cases h5 : kd = 1
          · rw [if_pos (show isImp kd from .inl h5)]
            by_cases h6 : reF ru = 0
            · rw [h6, orE_0]
              rw [h6] at hpr
              repeat' ((first | (refine kO 7 rfl ?_; first | refine rG (fun _ z => ⟨_, hpr, z⟩) ?_ | refine rG (fun _ z => ⟨_, within_sat _ _ _, z⟩) ?_) | refine tG ?_ | exact True.intro | refine brp (fun h => ?_) fun h => ?_ | refine opsA_ifp rfl rfl rfl (fun h => ?_) fun h => ?_ | refine opsA_unlessp rfl rfl rfl (fun h => ?_) fun h => ?_) <;> (try conv => whnf))
              all_goals first | (exfalso; omega) | exact resI (by unfold limE; split <;> (try split) <;> omega)
            · rw [orE_no h6]
              generalize reF ru = e at *
              repeat' ((first | (refine kO 7 rfl ?_; first | refine rG (fun _ z => ⟨_, hpr, z⟩) ?_) | refine tG ?_ | exact True.intro | refine brp (fun h => ?_) fun h => ?_ | refine opsA_ifp rfl rfl rfl (fun h => ?_) fun h => ?_ | refine opsA_unlessp rfl rfl rfl (fun h => ?_) fun h => ?_) <;> (try conv => whnf))
              all_goals first | (exfalso; omega) | rfl
          · rw [if_neg (show ¬ isImp kd by unfold isImp; omega)]
            by_cases h6 : ru = []
            · rw [if_pos h6, orE_0]
              subst h6
              repeat' ((first | (refine kO 7 rfl ?_; first | refine rG (fun _ z => ⟨_, within_sat _ _ _, z⟩) ?_) | refine tG ?_ | exact True.intro | refine brp (fun h => ?_) fun h => ?_ | refine opsA_ifp rfl rfl rfl (fun h => ?_) fun h => ?_ | refine opsA_unlessp rfl rfl rfl (fun h => ?_) fun h => ?_) <;> (try conv => whnf))
              all_goals first | (exfalso; omega) | exact resI (by unfold limE; split <;> (try split) <;> omega)
            · rw [if_neg h6, orE_no (by decide)]
              repeat' ((first | refine tG ?_ | exact True.intro | refine brp (fun h => ?_) fun h => ?_ | refine opsA_ifp rfl rfl rfl (fun h => ?_) fun h => ?_ | refine opsA_unlessp rfl rfl rfl (fun h => ?_) fun h => ?_) <;> (try conv => whnf))
              all_goals first | (exfalso; omega) | (exact absurd h h6) | rfl | (exact absurd (by simpa using h) h6)
    · rw [ta h1]
      refine sF f99 ?_
      repeat' ((first | (refine kO 7 rfl ?_; first | refine rG (fun _ z => ⟨_, hne, z⟩) ?_ | refine rG (fun _ z => ⟨_, within_sat _ _ _, z⟩) ?_) | refine tG ?_ | exact True.intro | refine brp (fun h => ?_) fun h => ?_ | refine opsA_ifp rfl rfl rfl (fun h => ?_) fun h => ?_ | refine opsA_unlessp rfl rfl rfl (fun h => ?_) fun h => ?_) <;> (try conv => whnf))
      all_goals first | (exfalso; omega) | rfl
  · rw [ea h0]
    generalize nmAt (tnm p.tests) i = e at *
    refine sF f99 ?_
    repeat' ((first | (refine kO 7 rfl ?_; first | refine rG (fun _ z => ⟨_, hne, z⟩) ?_) | refine tG ?_ | exact True.intro | refine brp (fun h => ?_) fun h => ?_ | refine opsA_ifp rfl rfl rfl (fun h => ?_) fun h => ?_ | refine opsA_unlessp rfl rfl rfl (fun h => ?_) fun h => ?_) <;> (try conv => whnf))
    all_goals first | (exfalso; omega) | rfl
end Go.Proofs.Tryz
namespace Go.Proofs.Tryz
open Go.Fw Go.IntWalk Go.Plain
set_option maxRecDepth 100000
set_option maxHeartbeats 8000000
theorem mos_l {n m : Nat} (h : m < n) : mostE n m = 8 := by unfold mostE; rw [if_neg (by omega)]
theorem mos_o {n m : Nat} (h : n ≤ m) : mostE n m = 0 := by unfold mostE; rw [if_pos h]
theorem refTests_sat {p : Pl} (hs : Small p) : Sat cx.P cx.gl 71 [(true, plC p)] (.tup (two (orP (0, mostE p.tests.length 8) (scanA (p.testE reF) p.tests.length)))) := by
  have hn : (p.tests.map tsC).length = p.tests.length := by simp
  have hnl : (tnm p.tests).length = p.tests.length := by simp [tnm]
  have hte := hs.te
  have hpl : plC p = [.view (p.people.map peC), .view (strs p.gates), .view (p.tests.map tsC), .view (p.parts.map ptC), J p.shock, J p.life] := rfl
  by_cases h8 : 8 < p.tests.length
  · rw [orP_no (by rw [mos_l h8]; decide), mos_l h8]
    refine sF f71 ?_
    repeat' ((first | refine tG ?_ | exact True.intro | refine brp (fun h => ?_) fun h => ?_ | refine opsA_ifp rfl rfl rfl (fun h => ?_) fun h => ?_ | refine opsA_unlessp rfl rfl rfl (fun h => ?_) fun h => ?_) <;> (try conv => whnf))
    all_goals first | (exfalso; omega) | rfl
  rw [orP_z (by rw [mos_o (by omega)])]
  refine sF f71 ?_
  (try (refine tG ?_; try exact True.intro))
  refine loop_ind (ι := Nat) (fun i => i ≤ p.tests.length ∧ ∀ j < i, p.testE reF j = 0) (fun i => p.tests.length - i) (fun i => ⟨[(1, pP 0), (4, pO 1), (5, vI i)], [(0, some (bxP p)), (1, some (.row true 1 (.view (strs ((tnm p.tests).take i)))))], 2⟩) 0 (Sub.trans (nil_sub 4 1 (.view []) (by decide) rfl rfl rfl) cA) ⟨Nat.zero_le _, fun j hj => by omega⟩ ?_
  rintro i ⟨hi, hp⟩
  by_cases hlt : i < p.tests.length
  · have he := kinds_eq hlt
    have hg := tnm_get hlt
    have hts := take_succ (l := tnm p.tests) (i := i) (by omega)
    have hne := refTestErr_sat hs i hlt
    have hret := fun (h : p.testE reF i ≠ 0) => scanA_at (f := p.testE reF) hlt hp h
    have hnx := fun (h : p.testE reF i = 0) => all_succ (f := p.testE reF) hp h
    have hll : (strs ((tnm p.tests).take i)).length ≤ 1000 := by simp; omega
    rw [hg] at hts
    rw [hts, strs_snocN, hpl] at hne
    generalize p.tests.getD i ts0 = x at *
    rcases x with ⟨nm, kd, nd, ru, lo, hi'⟩
    have he : (p.tests.map tsC)[i]? = some [T nm, J kd, .view (strs nd), T ru, J lo, J hi'] := he
    dsimp only at hne hts
    by_cases h1 : p.testE reF i = 0
    · rw [h1] at hne
      repeat' ((first | (refine kO 7 rfl ?_; first | refine rG (fun _ z => ⟨_, hne, z⟩) ?_) | refine tG ?_ | exact True.intro | refine brp (fun h => ?_) fun h => ?_ | refine opsA_ifp rfl rfl rfl (fun h => ?_) fun h => ?_ | refine opsA_unlessp rfl rfl rfl (fun h => ?_) fun h => ?_) <;> (try conv => whnf))
      all_goals first | (exfalso; omega) | exact ⟨i + 1, ⟨hlt, hnx h1⟩, by omega, canon_auto (by rw [hts, strs_snocN]; kernel_rfl)⟩ | (exact absurd rfl h)
    · rw [hret h1]
      generalize p.testE reF i = e at *
      repeat' ((first | (refine kO 7 rfl ?_; first | refine rG (fun _ z => ⟨_, hne, z⟩) ?_) | refine tG ?_ | exact True.intro | refine brp (fun h => ?_) fun h => ?_ | refine opsA_ifp rfl rfl rfl (fun h => ?_) fun h => ?_ | refine opsA_unlessp rfl rfl rfl (fun h => ?_) fun h => ?_) <;> (try conv => whnf))
      all_goals first | (exfalso; omega) | rfl
  · obtain rfl : i = p.tests.length := by omega
    rw [scanA_no hp]
    repeat' ((first | refine tG ?_ | exact True.intro | refine brp (fun h => ?_) fun h => ?_ | refine opsA_ifp rfl rfl rfl (fun h => ?_) fun h => ?_ | refine opsA_unlessp rfl rfl rfl (fun h => ?_) fun h => ?_) <;> (try conv => whnf))
    all_goals first | (exfalso; omega) | rfl
theorem paE_a {p : Pl} {i : Nat} (h : nmAt p.qnames i ≠ 0) : p.partE i = nmAt p.qnames i := by unfold Pl.partE; exact orE_no h _
theorem paE_b {p : Pl} {i : Nat} (h : nmAt p.qnames i = 0) : p.partE i = among (p.parts.getD i ([], [])).2 (tnm p.tests) := by unfold Pl.partE; rw [h, orE_0]
theorem idx_neg {l : List Str} {x : Str} : idxI l x < 0 ↔ x ∉ l := by
  unfold idxI
  by_cases h : x ∈ l
  · rw [if_pos h]; exact ⟨fun e => by omega, fun e => absurd h e⟩
  · rw [if_neg h]; exact ⟨fun _ => h, fun _ => by decide⟩
theorem refParts_sat {p : Pl} (hs : Small p) : Sat cx.P cx.gl 72 [(true, plC p)] (.tup (two (orP (0, mostE p.parts.length 6) (scanA p.partE p.parts.length)))) := by
  have hn : (p.parts.map ptC).length = p.parts.length := by simp
  have hnl : p.qnames.length = p.parts.length := by simp [Pl.qnames]
  have hpa := hs.pa
  have hpl : plC p = [.view (p.people.map peC), .view (strs p.gates), .view (p.tests.map tsC), .view (p.parts.map ptC), J p.shock, J p.life] := rfl
  by_cases h8 : 6 < p.parts.length
  · rw [orP_no (by rw [mos_l h8]; decide), mos_l h8]
    refine sF f72 ?_
    repeat' ((first | refine tG ?_ | exact True.intro | refine brp (fun h => ?_) fun h => ?_ | refine opsA_ifp rfl rfl rfl (fun h => ?_) fun h => ?_ | refine opsA_unlessp rfl rfl rfl (fun h => ?_) fun h => ?_) <;> (try conv => whnf))
    all_goals first | (exfalso; omega) | rfl
  rw [orP_z (by rw [mos_o (by omega)])]
  refine sF f72 ?_
  (try (refine tG ?_; try exact True.intro))
  refine loop_ind (ι := Nat) (fun i => i ≤ p.parts.length ∧ ∀ j < i, p.partE j = 0) (fun i => p.parts.length - i) (fun i => ⟨[(1, pP 0), (4, pO 1), (5, vI i)], [(0, some (bxP p)), (1, some (.row true 1 (.view (strs (p.qnames.take i)))))], 2⟩) 0 (Sub.trans (nil_sub 4 1 (.view []) (by decide) rfl rfl rfl) cA) ⟨Nat.zero_le _, fun j hj => by omega⟩ ?_
  rintro i ⟨hi, hp⟩
  by_cases hlt : i < p.parts.length
  · have he := map_at (f := ptC) hlt ([], [])
    have hg : p.qnames.getD i [] = (p.parts.getD i ([], [])).1 := by rw [getD_at hlt, getD_at (by omega)]; simp [Pl.qnames]
    have hts := take_succ (l := p.qnames) (i := i) (by omega)
    have hqv := hs.qv i hlt
    have hne := refNameErr_sat (p.qnames.take (i + 1)) i (by simp; omega) (by simp; omega) (by rw [show (p.qnames.take (i + 1)).getD i [] = p.qnames.getD i [] by simp [List.getD_eq_getElem?_getD], hg]; exact hs.qn i hlt)
    rw [nmAt_take (by omega)] at hne
    have hea := paE_a (p := p) (i := i)
    have heb := paE_b (p := p) (i := i)
    have hret := fun (h : p.partE i ≠ 0) => scanA_at (f := p.partE) hlt hp h
    have hnx := fun (h : p.partE i = 0) => all_succ hp h
    have hll : (strs (p.qnames.take i)).length ≤ 1000 := by simp; omega
    rw [hg] at hts
    rw [hts] at hne
    delta V1 at hne
    rw [strs_snocN] at hne
    generalize p.parts.getD i ([], []) = x at *
    rcases x with ⟨nm, vs⟩
    have he : (p.parts.map ptC)[i]? = some [T nm, .view (strs vs)] := he
    dsimp only at hne hts heb hqv
    by_cases h1 : nmAt p.qnames i = 0
    · rw [h1] at hne
      have heb := heb h1
      have hvl : (strs vs).length = vs.length := by simp
      repeat ((first | (refine kO 7 rfl ?_; first | refine rG (fun _ z => ⟨_, hne, z⟩) ?_) | refine tG ?_ | exact True.intro); (try conv => whnf))
      refine loop_ind (ι := Nat) (fun k => k ≤ vs.length ∧ ∀ j < k, amE vs (tnm p.tests) j = 0) (fun k => vs.length - k) (fun k => ⟨[(1, pP 0), (4, pO 1), (5, vI i), (6, pP 2), (8, vI k)], [(0, some (bxP p)), (1, some (.row true 1 (.view (strs (p.qnames.take (i + 1)))))), (2, some (.box 92 [.st (T nm), .st (.view (strs vs))]))], 3⟩) 0 (canon_auto (by rw [hts, strs_snocN]; kernel_rfl)) ⟨Nat.zero_le _, fun j hj => by omega⟩ ?_
      rintro k ⟨hk, hq⟩
      by_cases hkl : k < vs.length
      · have hek := sA hkl
        have hfk : amE vs (tnm p.tests) k = if vs.getD k [] ∈ tnm p.tests then (if vs.getD k [] ∈ vs.take k then 23 else 0) else 6 := rfl
        have hnk := fun (h : amE vs (tnm p.tests) k = 0) => all_succ (f := amE vs (tnm p.tests)) hq h
        have hra := among_at (l := vs) (all := tnm p.tests) hkl hq
        have c1 := refTestOf_sat p (vs.getD k []) hs.te
        have c2 : Sat cx.P cx.gl 74 [(false, [.view (strs (vs.take k))]), SS (vs.getD k [])] (.one (Bo (decide (vs.getD k [] ∈ vs.take k)))) := hasText_sat _ _ (by simp; omega)
        have hin := idx_neg (l := tnm p.tests) (x := vs.getD k [])
        rw [hpl] at c1
        generalize vs.getD k [] = s at *
        generalize idxI (tnm p.tests) s = ix at *
        by_cases q1 : s ∈ tnm p.tests
        · have hix : ¬ ix < 0 := fun h => hin.1 h q1
          rw [if_pos q1] at hfk
          by_cases q2 : s ∈ vs.take k
          · rw [if_pos q2] at hfk
            rw [decide_eq_true q2] at c2
            have hrr := hra (by rw [hfk]; decide)
            rw [hfk] at hrr
            rw [hrr] at heb
            rw [hret (by rw [heb]; decide), heb]
            repeat' ((first | (refine kO 7 rfl ?_; first | refine rG (fun _ z => ⟨_, c1, z⟩) ?_ | refine rG (fun _ z => ⟨_, c2, z⟩) ?_) | refine tG ?_ | exact True.intro | refine brp (fun h => ?_) fun h => ?_ | refine opsA_ifp rfl rfl rfl (fun h => ?_) fun h => ?_ | refine opsA_unlessp rfl rfl rfl (fun h => ?_) fun h => ?_) <;> (try conv => whnf))
            all_goals first | (exfalso; omega) | rfl
          · rw [if_neg q2] at hfk
            rw [decide_eq_false q2] at c2
            repeat' ((first | (refine kO 7 rfl ?_; first | refine rG (fun _ z => ⟨_, c1, z⟩) ?_ | refine rG (fun _ z => ⟨_, c2, z⟩) ?_) | refine tG ?_ | exact True.intro | refine brp (fun h => ?_) fun h => ?_ | refine opsA_ifp rfl rfl rfl (fun h => ?_) fun h => ?_ | refine opsA_unlessp rfl rfl rfl (fun h => ?_) fun h => ?_) <;> (try conv => whnf))
            all_goals first | (exfalso; omega) | exact ⟨k + 1, ⟨hkl, hnk hfk⟩, by omega, cA⟩
        · have hix : ix < 0 := hin.2 q1
          rw [if_neg q1] at hfk
          have hrr := hra (by rw [hfk]; decide)
          rw [hfk] at hrr
          rw [hrr] at heb
          rw [hret (by rw [heb]; decide), heb]
          repeat' ((first | (refine kO 7 rfl ?_; first | refine rG (fun _ z => ⟨_, c1, z⟩) ?_ | refine rG (fun _ z => ⟨_, c2, z⟩) ?_) | refine tG ?_ | exact True.intro | refine brp (fun h => ?_) fun h => ?_ | refine opsA_ifp rfl rfl rfl (fun h => ?_) fun h => ?_ | refine opsA_unlessp rfl rfl rfl (fun h => ?_) fun h => ?_) <;> (try conv => whnf))
          all_goals first | (exfalso; omega) | rfl
      · obtain rfl : k = vs.length := by omega
        rw [among_no hq] at heb
        repeat' ((first | refine tG ?_ | exact True.intro | refine brp (fun h => ?_) fun h => ?_ | refine opsA_ifp rfl rfl rfl (fun h => ?_) fun h => ?_ | refine opsA_unlessp rfl rfl rfl (fun h => ?_) fun h => ?_) <;> (try conv => whnf))
        all_goals first | (exfalso; omega) | exact ⟨i + 1, ⟨hlt, hnx heb⟩, by omega, cA⟩
    · rw [hret (by rw [hea h1]; exact h1), hea h1]
      generalize nmAt p.qnames i = e at *
      repeat' ((first | (refine kO 7 rfl ?_; first | refine rG (fun _ z => ⟨_, hne, z⟩) ?_) | refine tG ?_ | exact True.intro | refine brp (fun h => ?_) fun h => ?_ | refine opsA_ifp rfl rfl rfl (fun h => ?_) fun h => ?_ | refine opsA_unlessp rfl rfl rfl (fun h => ?_) fun h => ?_) <;> (try conv => whnf))
      all_goals first | (exfalso; omega) | rfl
  · obtain rfl : i = p.parts.length := by omega
    rw [scanA_no hp]
    repeat' ((first | refine tG ?_ | exact True.intro | refine brp (fun h => ?_) fun h => ?_ | refine opsA_ifp rfl rfl rfl (fun h => ?_) fun h => ?_ | refine opsA_unlessp rfl rfl rfl (fun h => ?_) fun h => ?_) <;> (try conv => whnf))
    all_goals first | (exfalso; omega) | rfl
end Go.Proofs.Tryz
namespace Go.Proofs.Tryz
open Go.Fw Go.IntWalk Go.Plain
set_option maxRecDepth 100000
set_option maxHeartbeats 8000000
theorem orP_assoc (a b c : Int × Int) : orP (orP a b) c = orP a (orP b c) := by
  unfold orP
  by_cases h : a.2 ≠ 0
  · rw [if_pos h, if_pos h, if_pos h]
  · rw [if_neg h, if_neg h]
theorem err_assoc (p : Pl) : p.err reF = orP (orP (0, cntE p.people.length 8) (scanA p.peopleE p.people.length)) (orP (orP (0, cntE p.gates.length 4) (scanA (nmAt p.gates) p.gates.length))
    (orP (orP (0, mostE p.tests.length 8) (scanA (p.testE reF) p.tests.length)) (orP (orP (0, mostE p.parts.length 6) (scanA p.partE p.parts.length)) (0, if (0 ≤ p.shock ∧ p.shock ≤ 1000) ∧ 0 ≤ p.life ∧ p.life ≤ 1000000000000 then 0 else 2)))) := by
  simp only [orP_assoc]; rfl
theorem refCheckPlant_sat {p : Pl} (hs : Small p) : Sat cx.P cx.gl 11 [(true, plC p)] (.tup (two (p.err reF))) := by
  have c1 := refPeople_sat hs
  have c2 := refGates_sat hs
  have c3 := refTests_sat hs
  have c4 := refParts_sat hs
  have hpl : plC p = [.view (p.people.map peC), .view (strs p.gates), .view (p.tests.map tsC), .view (p.parts.map ptC), J p.shock, J p.life] := rfl
  rw [err_assoc]
  generalize orP (0, cntE p.people.length 8) (scanA p.peopleE p.people.length) = r1 at *
  generalize orP (0, cntE p.gates.length 4) (scanA (nmAt p.gates) p.gates.length) = r2 at *
  generalize orP (0, mostE p.tests.length 8) (scanA (p.testE reF) p.tests.length) = r3 at *
  generalize orP (0, mostE p.parts.length 6) (scanA p.partE p.parts.length) = r4 at *
  have c1 : Sat cx.P cx.gl 69 [(true, [.view (p.people.map peC), .view (strs p.gates), .view (p.tests.map tsC), .view (p.parts.map ptC), J p.shock, J p.life])] (.tup [I r1.1, I r1.2]) := c1
  have c2 : Sat cx.P cx.gl 70 [(true, [.view (p.people.map peC), .view (strs p.gates), .view (p.tests.map tsC), .view (p.parts.map ptC), J p.shock, J p.life])] (.tup [I r2.1, I r2.2]) := c2
  have c3 : Sat cx.P cx.gl 71 [(true, [.view (p.people.map peC), .view (strs p.gates), .view (p.tests.map tsC), .view (p.parts.map ptC), J p.shock, J p.life])] (.tup [I r3.1, I r3.2]) := c3
  have c4 : Sat cx.P cx.gl 72 [(true, [.view (p.people.map peC), .view (strs p.gates), .view (p.tests.map tsC), .view (p.parts.map ptC), J p.shock, J p.life])] (.tup [I r4.1, I r4.2]) := c4
  by_cases h1 : r1.2 = 0
  · rw [orP_z h1]
    rw [h1] at c1
    by_cases h2 : r2.2 = 0
    · rw [orP_z h2]
      rw [h2] at c2
      by_cases h3 : r3.2 = 0
      · rw [orP_z h3]
        rw [h3] at c3
        by_cases h4 : r4.2 = 0
        · rw [orP_z h4]
          rw [h4] at c4
          by_cases h5 : (0 ≤ p.shock ∧ p.shock ≤ 1000) ∧ 0 ≤ p.life ∧ p.life ≤ 1000000000000
          · rw [if_pos h5]
            refine sF f11 ?_
            repeat' ((first | (refine kO 7 rfl ?_; first | refine rG (fun _ z => ⟨_, c1, z⟩) ?_ | refine rG (fun _ z => ⟨_, c2, z⟩) ?_ | refine rG (fun _ z => ⟨_, c3, z⟩) ?_ | refine rG (fun _ z => ⟨_, c4, z⟩) ?_ | refine rG (fun _ z => ⟨_, within_sat _ _ _, z⟩) ?_) | refine tG ?_ | exact True.intro | refine brp (fun h => ?_) fun h => ?_ | refine opsA_ifp rfl rfl rfl (fun h => ?_) fun h => ?_ | refine opsA_unlessp rfl rfl rfl (fun h => ?_) fun h => ?_) <;> (try conv => whnf))
            all_goals first | (exfalso; omega) | rfl
          · rw [if_neg h5]
            refine sF f11 ?_
            repeat' ((first | (refine kO 7 rfl ?_; first | refine rG (fun _ z => ⟨_, c1, z⟩) ?_ | refine rG (fun _ z => ⟨_, c2, z⟩) ?_ | refine rG (fun _ z => ⟨_, c3, z⟩) ?_ | refine rG (fun _ z => ⟨_, c4, z⟩) ?_ | refine rG (fun _ z => ⟨_, within_sat _ _ _, z⟩) ?_) | refine tG ?_ | exact True.intro | refine brp (fun h => ?_) fun h => ?_ | refine opsA_ifp rfl rfl rfl (fun h => ?_) fun h => ?_ | refine opsA_unlessp rfl rfl rfl (fun h => ?_) fun h => ?_) <;> (try conv => whnf))
            all_goals first | (exfalso; omega) | rfl
        · rw [orP_no h4]
          refine sF f11 ?_
          repeat' ((first | (refine kO 7 rfl ?_; first | refine rG (fun _ z => ⟨_, c1, z⟩) ?_ | refine rG (fun _ z => ⟨_, c2, z⟩) ?_ | refine rG (fun _ z => ⟨_, c3, z⟩) ?_ | refine rG (fun _ z => ⟨_, c4, z⟩) ?_) | refine tG ?_ | exact True.intro | refine brp (fun h => ?_) fun h => ?_ | refine opsA_ifp rfl rfl rfl (fun h => ?_) fun h => ?_ | refine opsA_unlessp rfl rfl rfl (fun h => ?_) fun h => ?_) <;> (try conv => whnf))
          all_goals first | (exfalso; omega) | rfl
      · rw [orP_no h3]
        refine sF f11 ?_
        repeat' ((first | (refine kO 7 rfl ?_; first | refine rG (fun _ z => ⟨_, c1, z⟩) ?_ | refine rG (fun _ z => ⟨_, c2, z⟩) ?_ | refine rG (fun _ z => ⟨_, c3, z⟩) ?_) | refine tG ?_ | exact True.intro | refine brp (fun h => ?_) fun h => ?_ | refine opsA_ifp rfl rfl rfl (fun h => ?_) fun h => ?_ | refine opsA_unlessp rfl rfl rfl (fun h => ?_) fun h => ?_) <;> (try conv => whnf))
        all_goals first | (exfalso; omega) | rfl
    · rw [orP_no h2]
      refine sF f11 ?_
      repeat' ((first | (refine kO 7 rfl ?_; first | refine rG (fun _ z => ⟨_, c1, z⟩) ?_ | refine rG (fun _ z => ⟨_, c2, z⟩) ?_) | refine tG ?_ | exact True.intro | refine brp (fun h => ?_) fun h => ?_ | refine opsA_ifp rfl rfl rfl (fun h => ?_) fun h => ?_ | refine opsA_unlessp rfl rfl rfl (fun h => ?_) fun h => ?_) <;> (try conv => whnf))
      all_goals first | (exfalso; omega) | rfl
  · rw [orP_no h1]
    refine sF f11 ?_
    repeat' ((first | (refine kO 7 rfl ?_; first | refine rG (fun _ z => ⟨_, c1, z⟩) ?_) | refine tG ?_ | exact True.intro | refine brp (fun h => ?_) fun h => ?_ | refine opsA_ifp rfl rfl rfl (fun h => ?_) fun h => ?_ | refine opsA_unlessp rfl rfl rfl (fun h => ?_) fun h => ?_) <;> (try conv => whnf))
    all_goals first | (exfalso; omega) | rfl
theorem copyTexts_sat (l : List Str) (hl : l.length ≤ 1000000) : Sat cx.P cx.gl 66 [V1 l] (.own 1 (.view (strs l))) := by
  have hn : (strs l).length = l.length := by simp
  refine sF f66 ?_
  (try (refine tG ?_; try exact True.intro))
  (first | done | rfl | exact True.intro)
end Go.Proofs.Tryz
namespace Go.Proofs.Tryz
open Go.Fw Go.IntWalk Go.Plain
set_option maxRecDepth 100000
set_option maxHeartbeats 8000000
def voP (nm : Str) (vs out nd : List Str) (n : Nat) : Prop := nm ∈ vs ∨ ∃ x ∈ nd.take n, x ∈ out
noncomputable instance (nm : Str) (vs out nd : List Str) (n : Nat) : Decidable (voP nm vs out nd n) := Classical.propDecidable _
theorem voP_succ {nm : Str} {vs out nd : List Str} {n : Nat} (h : n < nd.length) : voP nm vs out nd (n + 1) ↔ voP nm vs out nd n ∨ nd.getD n [] ∈ out := by
  unfold voP
  constructor
  · rintro (a | ⟨x, hx, ho⟩)
    · exact .inl (.inl a)
    · rcases (mem_succ h).1 hx with hx | rfl
      · exact .inl (.inr ⟨x, hx, ho⟩)
      · exact .inr ho
  · rintro ((a | ⟨x, hx, ho⟩) | ho)
    · exact .inl a
    · exact .inr ⟨x, (mem_succ h).2 (.inl hx), ho⟩
    · exact .inr ⟨_, (mem_succ h).2 (.inr rfl), ho⟩
theorem refVoided_sat {p : Pl} (hs : Small p) (k : Nat) (hk : k < p.parts.length) : Sat cx.P cx.gl 14 [(true, plC p), I k] (.own 1 (.view (strs (voided p.tests (p.parts.getD k ([], [])).2)))) := by
  have hn : (p.tests.map tsC).length = p.tests.length := by simp
  have hnp : (p.parts.map ptC).length = p.parts.length := by simp
  have hek := map_at (f := ptC) hk ([], [])
  have hqv := hs.qv k hk
  have hte := hs.te
  have hpa := hs.pa
  generalize p.parts.getD k ([], []) = q at *
  rcases q with ⟨qn, vs⟩
  have hek : (p.parts.map ptC)[k]? = some [T qn, .view (strs vs)] := hek
  dsimp only at *
  refine sF f14 ?_
  (try (refine tG ?_; try exact True.intro))
  refine loop_ind (ι := Nat) (fun i => i ≤ p.tests.length) (fun i => p.tests.length - i) (fun i => ⟨[(1, vI k), (2, pP 0), (5, pO 1), (6, vI i)], [(0, some (bxP p)), (1, some (.row true 1 (.view (strs (voided (p.tests.take i) vs)))))], 2⟩) 0 (Sub.trans (nil_sub 5 1 (.view []) (by decide) rfl rfl rfl) cA) (Nat.zero_le _) ?_
  intro i hi
  by_cases hlt : i < p.tests.length
  · have he := kinds_eq hlt
    have hvt := voided_take (voids := vs) hlt
    have hvl := voided_len (p.tests.take i) vs
    have hnd := hs.td i hlt
    have hlt2 : (p.tests.take i).length = i := by simp; omega
    unfold voidS at hvt
    generalize voided (p.tests.take i) vs = out at *
    generalize p.tests.getD i ts0 = t at *
    rcases t with ⟨nm, kd, nd, ru, lo, hi'⟩
    have he : (p.tests.map tsC)[i]? = some [T nm, J kd, .view (strs nd), T ru, J lo, J hi'] := he
    dsimp only at hvt hnd
    have hol : (strs out).length = out.length := by simp
    have hnl : (strs nd).length = nd.length := by simp
    have c0 : Sat cx.P cx.gl 74 [(false, [.view (strs vs)]), SS nm] (.one (Bo (decide (nm ∈ vs)))) := hasText_sat _ _ (by omega)
    have v0 : decide (nm ∈ vs) = decide (voP nm vs out nd 0) := by rw [Bool.eq_iff_iff]; simp only [decide_eq_true_iff]; unfold voP; simp
    rw [v0] at c0
    have hend : voP nm vs out nd nd.length ↔ nm ∈ vs ∨ ∃ x ∈ nd, x ∈ out := by unfold voP; rw [List.take_of_length_le (Nat.le_refl _)]
    repeat ((first | (refine kO 7 rfl ?_; first | refine rG (fun _ z => ⟨_, c0, z⟩) ?_) | refine tG ?_ | exact True.intro); (try conv => whnf))
    refine loop_ind (ι := Nat) (fun n => n ≤ nd.length) (fun n => nd.length - n) (fun n => ⟨[(1, vI k), (2, pP 0), (5, pO 1), (6, vI i), (7, pP 2), (8, some (.val (false, [.st (.lit (.bool (decide (voP nm vs out nd n))))]))), (9, vI n)], [(0, some (bxP p)), (1, some (.row true 1 (.view (strs out)))), (2, some (.box 89 [.st (T nm), .st (J kd), .st (.view (strs nd)), .st (T ru), .st (J lo), .st (J hi')]))], 3⟩) 0 cA (Nat.zero_le _) ?_
    intro n hn'
    by_cases hnlt : n < nd.length
    · have hen := sA hnlt
      have hsc := voP_succ (nm := nm) (vs := vs) (out := out) hnlt
      have c1 : Sat cx.P cx.gl 74 [(false, [.view (strs out)]), SS (nd.getD n [])] (.one (Bo (decide (nd.getD n [] ∈ out)))) := hasText_sat _ _ (by omega)
      generalize nd.getD n [] = s at *
      by_cases h1 : voP nm vs out nd n
      · have h2 : voP nm vs out nd (n + 1) := hsc.2 (.inl h1)
        rw [decide_eq_true h1]
        repeat' ((first | (refine kO 7 rfl ?_; first | refine rG (fun _ z => ⟨_, c1, z⟩) ?_) | refine tG ?_ | exact True.intro | refine brp (fun h => ?_) fun h => ?_ | refine opsA_ifp rfl rfl rfl (fun h => ?_) fun h => ?_ | refine opsA_unlessp rfl rfl rfl (fun h => ?_) fun h => ?_) <;> (try conv => whnf))
        all_goals first | (exfalso; omega) | exact ⟨n + 1, hnlt, by omega, canon_auto (by dsimp only; rw [decide_eq_true h2]; kernel_rfl)⟩
      · rw [decide_eq_false h1]
        have h2 : decide (voP nm vs out nd (n + 1)) = decide (s ∈ out) := by rw [Bool.eq_iff_iff]; simp only [decide_eq_true_iff]; exact ⟨fun h => (hsc.1 h).resolve_left h1, fun h => hsc.2 (.inr h)⟩
        repeat' ((first | (refine kO 7 rfl ?_; first | refine rG (fun _ z => ⟨_, c1, z⟩) ?_) | refine tG ?_ | exact True.intro | refine brp (fun h => ?_) fun h => ?_ | refine opsA_ifp rfl rfl rfl (fun h => ?_) fun h => ?_ | refine opsA_unlessp rfl rfl rfl (fun h => ?_) fun h => ?_) <;> (try conv => whnf))
        all_goals first | (exfalso; omega) | exact ⟨n + 1, hnlt, by omega, canon_auto (by dsimp only; rw [h2]; kernel_rfl)⟩
    · obtain rfl : n = nd.length := by omega
      by_cases h1 : voP nm vs out nd nd.length
      · rw [decide_eq_true h1]
        rw [if_pos (hend.1 h1)] at hvt
        repeat' ((first | refine tG ?_ | exact True.intro | refine brp (fun h => ?_) fun h => ?_ | refine opsA_ifp rfl rfl rfl (fun h => ?_) fun h => ?_ | refine opsA_unlessp rfl rfl rfl (fun h => ?_) fun h => ?_) <;> (try conv => whnf))
        all_goals first | (exfalso; omega) | exact ⟨i + 1, hlt, by omega, canon_auto (by rw [hvt, strs_snocN]; kernel_rfl)⟩
      · rw [decide_eq_false h1]
        rw [if_neg (fun h => h1 (hend.2 h))] at hvt
        repeat' ((first | refine tG ?_ | exact True.intro | refine brp (fun h => ?_) fun h => ?_ | refine opsA_ifp rfl rfl rfl (fun h => ?_) fun h => ?_ | refine opsA_unlessp rfl rfl rfl (fun h => ?_) fun h => ?_) <;> (try conv => whnf))
        all_goals first | (exfalso; omega) | exact ⟨i + 1, hlt, by omega, canon_auto (by rw [hvt]; kernel_rfl)⟩
  · obtain rfl : i = p.tests.length := by omega
    rw [List.take_of_length_le (Nat.le_refl _)]
    repeat' ((first | refine tG ?_ | exact True.intro | refine brp (fun h => ?_) fun h => ?_ | refine opsA_ifp rfl rfl rfl (fun h => ?_) fun h => ?_ | refine opsA_unlessp rfl rfl rfl (fun h => ?_) fun h => ?_) <;> (try conv => whnf))
    all_goals first | (exfalso; omega) | rfl
theorem texts_sat (a b : List Str) (ha : a.length ≤ 1000000) (hb : b.length ≤ 1000000) : Sat cx.P cx.gl 13 [V1 a, V1 b] (.one (Bo (decide (a = b)))) := by
  have hna : (strs a).length = a.length := by simp
  have hnb : (strs b).length = b.length := by simp
  by_cases h0 : a.length = b.length
  · refine sF f13 ?_
    (try (refine tG ?_; try exact True.intro))
    refine loop_ind (ι := Nat) (fun i => i ≤ a.length ∧ a.take i = b.take i) (fun i => a.length - i) (fun i => ⟨[(0, some (.val (false, [.st (.view (strs a))]))), (1, some (.val (false, [.st (.view (strs b))]))), (5, vI i)], [], 0⟩) 0 cA ⟨Nat.zero_le _, rfl⟩ ?_
    rintro i ⟨hi, he⟩
    by_cases hlt : i < a.length
    · have h1 := sA hlt
      have hlb : i < b.length := by omega
      have h2 := sA hlb
      have t1 := take_succ hlt
      have t2 := take_succ hlb
      have hne : a.getD i [] ≠ b.getD i [] → a ≠ b := fun h e => h (by rw [e])
      rw [he] at t1
      generalize a.getD i [] = x at *
      generalize b.getD i [] = y at *
      by_cases hx : x = y
      · subst hx
        repeat' ((first | refine tG ?_ | exact True.intro | refine brp (fun h => ?_) fun h => ?_ | refine opsA_ifp rfl rfl rfl (fun h => ?_) fun h => ?_ | refine opsA_unlessp rfl rfl rfl (fun h => ?_) fun h => ?_) <;> (try conv => whnf))
        all_goals first | (exfalso; omega) | exact ⟨i + 1, ⟨hlt, by rw [t1, t2]⟩, by omega, cA⟩ | (exact absurd rfl h)
      · repeat' ((first | refine tG ?_ | exact True.intro | refine brp (fun h => ?_) fun h => ?_ | refine opsA_ifp rfl rfl rfl (fun h => ?_) fun h => ?_ | refine opsA_unlessp rfl rfl rfl (fun h => ?_) fun h => ?_) <;> (try conv => whnf))
        all_goals first | (exfalso; omega) | exact resB (decide_eq_false (hne hx)).symm | (exact absurd (by simpa using h) hx)
    · obtain rfl : i = a.length := by omega
      have e : a = b := by rw [List.take_of_length_le (Nat.le_refl _), List.take_of_length_le (by omega)] at he; exact he
      repeat' ((first | refine tG ?_ | exact True.intro | refine brp (fun h => ?_) fun h => ?_ | refine opsA_ifp rfl rfl rfl (fun h => ?_) fun h => ?_ | refine opsA_unlessp rfl rfl rfl (fun h => ?_) fun h => ?_) <;> (try conv => whnf))
      all_goals first | (exfalso; omega) | exact resB (decide_eq_true e).symm
  · refine sF f13 ?_
    repeat' ((first | refine tG ?_ | exact True.intro | refine brp (fun h => ?_) fun h => ?_ | refine opsA_ifp rfl rfl rfl (fun h => ?_) fun h => ?_ | refine opsA_unlessp rfl rfl rfl (fun h => ?_) fun h => ?_) <;> (try conv => whnf))
    all_goals first | (exfalso; omega) | exact resB (decide_eq_false fun e => h0 (by rw [e])).symm
end Go.Proofs.Tryz
namespace Go.Proofs.Tryz
open Go.Fw Go.IntWalk Go.Plain
set_option maxRecDepth 100000
set_option maxHeartbeats 8000000
def txOk (l : List Str) : Prop := l.length ≤ 10 ∧ ∀ i < l.length, (l.getD i []).length ≤ 20
noncomputable instance (l : List Str) : Decidable (txOk l) := Classical.propDecidable _
theorem lawTexts_sat (l : List Str) (hl : l.length ≤ 9223372036854775807) : Sat cx.P cx.gl 38 [V1 l] (.one (Bo (decide (txOk l)))) := by
  have hn : (strs l).length = l.length := by simp
  by_cases h0 : l.length ≤ 10
  · refine sF f38 ?_
    (try (refine tG ?_; try exact True.intro))
    refine loop_ind (ι := Nat) (fun i => i ≤ l.length ∧ ∀ j < i, (l.getD j []).length ≤ 20) (fun i => l.length - i) (fun i => ⟨[(0, some (.val (false, [.st (.view (strs l))]))), (3, vI i)], [], 0⟩) 0 cA ⟨Nat.zero_le _, fun j hj => by omega⟩ ?_
    rintro i ⟨hi, hp⟩
    by_cases hlt : i < l.length
    · have he := sA hlt
      have hno : 20 < (l.getD i []).length → ¬ txOk l := fun h hh => by have := hh.2 i hlt; omega
      have hnx : (l.getD i []).length ≤ 20 → ∀ j < i + 1, (l.getD j []).length ≤ 20 := fun h j hj => by
        by_cases e : j = i
        · subst e; exact h
        · exact hp j (by omega)
      generalize l.getD i [] = s at *
      repeat' ((first | refine tG ?_ | exact True.intro | refine brp (fun h => ?_) fun h => ?_ | refine opsA_ifp rfl rfl rfl (fun h => ?_) fun h => ?_ | refine opsA_unlessp rfl rfl rfl (fun h => ?_) fun h => ?_) <;> (try conv => whnf))
      all_goals first | (exfalso; omega) | exact resB (decide_eq_false (hno (by omega))).symm | exact ⟨i + 1, ⟨hlt, hnx (by omega)⟩, by omega, cA⟩
    · obtain rfl : i = l.length := by omega
      repeat' ((first | refine tG ?_ | exact True.intro | refine brp (fun h => ?_) fun h => ?_ | refine opsA_ifp rfl rfl rfl (fun h => ?_) fun h => ?_ | refine opsA_unlessp rfl rfl rfl (fun h => ?_) fun h => ?_) <;> (try conv => whnf))
      all_goals first | (exfalso; omega) | exact resB (decide_eq_true ⟨h0, hp⟩).symm
  · refine sF f38 ?_
    repeat' ((first | refine tG ?_ | exact True.intro | refine brp (fun h => ?_) fun h => ?_ | refine opsA_ifp rfl rfl rfl (fun h => ?_) fun h => ?_ | refine opsA_unlessp rfl rfl rfl (fun h => ?_) fun h => ?_) <;> (try conv => whnf))
    all_goals first | (exfalso; omega) | exact resB (decide_eq_false fun h => h0 h.1).symm
def fewA (p : Pl) (i : Nat) : Prop := (p.people.getD i ([], 0)).1.length ≤ 20
def fewB (p : Pl) (i : Nat) : Prop := (p.tests.getD i ts0).name.length ≤ 20 ∧ (p.tests.getD i ts0).rules.length ≤ 100 ∧ txOk (p.tests.getD i ts0).needs
def fewC (p : Pl) (i : Nat) : Prop := (p.parts.getD i ([], [])).1.length ≤ 20 ∧ txOk (p.parts.getD i ([], [])).2
def fewN (p : Pl) : Prop := p.people.length ≤ 10 ∧ p.gates.length ≤ 6 ∧ p.tests.length ≤ 10 ∧ p.parts.length ≤ 8
def fewP (p : Pl) : Prop := fewN p ∧ (∀ i < p.people.length, fewA p i) ∧ (∀ i < p.tests.length, fewB p i) ∧ (∀ i < p.parts.length, fewC p i) ∧ txOk p.gates
noncomputable instance (p : Pl) : Decidable (fewP p) := Classical.propDecidable _
theorem few_small {p : Pl} (h : fewP p) : Small p := by
  obtain ⟨⟨a1, a2, a3, a4⟩, b1, b2, b3, b4, b5⟩ := h
  refine ⟨by omega, by omega, by omega, by omega, fun i hi => ?_, fun i hi => ?_, fun i hi => ?_, fun i hi => ?_, fun i hi => ?_, fun i hi => ?_, fun i hi => ?_⟩
  · have : _ ≤ 20 := b1 i hi; omega
  · have := b5 i hi; omega
  · have := (b2 i hi).1; omega
  · have := (b2 i hi).2.2.1; omega
  · have := (b2 i hi).2.1; omega
  · have := (b3 i hi).1; omega
  · have := (b3 i hi).2.1; omega
theorem up_succ {q : Nat → Prop} {i : Nat} (h : ∀ j < i, q j) (k : q i) : ∀ j < i + 1, q j := fun j hj => by
  by_cases e : j = i
  · subst e; exact k
  · exact h j (by omega)
end Go.Proofs.Tryz
namespace Go.Proofs.Tryz
open Go.Fw Go.IntWalk Go.Plain
set_option maxRecDepth 100000
set_option maxHeartbeats 8000000
theorem few_sat (p : Pl) (h1 : p.people.length ≤ 9223372036854775807) (h2 : p.gates.length ≤ 9223372036854775807) (h3 : p.tests.length ≤ 9223372036854775807) (h4 : p.parts.length ≤ 9223372036854775807)
    (h5 : ∀ i < p.tests.length, (p.tests.getD i ts0).needs.length ≤ 9223372036854775807) (h6 : ∀ i < p.parts.length, (p.parts.getD i ([], [])).2.length ≤ 9223372036854775807) : Sat cx.P cx.gl 7 [(true, plC p)] (.one (Bo (decide (fewP p)))) := by
  have l1 : (p.people.map peC).length = p.people.length := by simp
  have l2 : (strs p.gates).length = p.gates.length := by simp
  have l3 : (p.tests.map tsC).length = p.tests.length := by simp
  have l4 : (p.parts.map ptC).length = p.parts.length := by simp
  by_cases h0 : fewN p
  rotate_left
  · unfold fewN at h0
    refine sF f7 ?_
    repeat' ((first | refine tG ?_ | exact True.intro | refine brp (fun h => ?_) fun h => ?_ | refine opsA_ifp rfl rfl rfl (fun h => ?_) fun h => ?_ | refine opsA_unlessp rfl rfl rfl (fun h => ?_) fun h => ?_) <;> (try conv => whnf))
    all_goals first | (exfalso; omega) | exact resB (decide_eq_false fun h => h0 h.1).symm
  have h0' := h0
  unfold fewN at h0'
  refine sF f7 ?_
  (try (refine tG ?_; try exact True.intro))
  refine loop_ind (ι := Nat) (fun i => i ≤ p.people.length ∧ ∀ j < i, fewA p j) (fun i => p.people.length - i) (fun i => ⟨[(1, pP 0), (3, vI i)], [(0, some (bxP p))], 1⟩) 0 cA ⟨Nat.zero_le _, fun j hj => by omega⟩ ?_
  rintro i ⟨hi, hp⟩
  by_cases hlt : i < p.people.length
  · have he := map_at (f := peC) hlt ([], 0)
    have hno : ¬ fewA p i → ¬ fewP p := fun h hh => h (hh.2.1 i hlt)
    have hnx := fun (h : fewA p i) => up_succ hp h
    unfold fewA at hno hnx
    generalize p.people.getD i ([], 0) = x at *
    repeat' ((first | refine tG ?_ | exact True.intro | refine brp (fun h => ?_) fun h => ?_ | refine opsA_ifp rfl rfl rfl (fun h => ?_) fun h => ?_ | refine opsA_unlessp rfl rfl rfl (fun h => ?_) fun h => ?_) <;> (try conv => whnf))
    all_goals first | (exfalso; omega) | exact resB (decide_eq_false (hno (by omega))).symm | exact ⟨i + 1, ⟨hlt, hnx (by omega)⟩, by omega, cA⟩
  obtain rfl : i = p.people.length := by omega
  have hpe := hp
  clear hp hi hlt
  (try (refine tG ?_; try exact True.intro))
  refine loop_ind (ι := Nat) (fun i => i ≤ p.tests.length ∧ ∀ j < i, fewB p j) (fun i => p.tests.length - i) (fun i => ⟨[(1, pP 0), (4, vI i)], [(0, some (bxP p))], 1⟩) 0 cA ⟨Nat.zero_le _, fun j hj => by omega⟩ ?_
  rintro i ⟨hi, hp⟩
  by_cases hlt : i < p.tests.length
  · have he := kinds_eq hlt
    have hno : ¬ fewB p i → ¬ fewP p := fun h hh => h (hh.2.2.1 i hlt)
    have hnx := fun (h : fewB p i) => up_succ hp h
    have ht := lawTexts_sat (p.tests.getD i ts0).needs (h5 i hlt)
    unfold fewB at hno hnx
    generalize p.tests.getD i ts0 = x at *
    rcases x with ⟨nm, kd, nd, ru, lo, hi'⟩
    have he : (p.tests.map tsC)[i]? = some [T nm, J kd, .view (strs nd), T ru, J lo, J hi'] := he
    dsimp only at hno hnx ht
    by_cases q : txOk nd
    · rw [decide_eq_true q] at ht
      repeat' ((first | (refine kO 7 rfl ?_; first | refine rG (fun _ z => ⟨_, ht, z⟩) ?_) | refine tG ?_ | exact True.intro | refine brp (fun h => ?_) fun h => ?_ | refine opsA_ifp rfl rfl rfl (fun h => ?_) fun h => ?_ | refine opsA_unlessp rfl rfl rfl (fun h => ?_) fun h => ?_) <;> (try conv => whnf))
      all_goals first | (exfalso; omega) | exact resB (decide_eq_false (hno fun hh => by omega)).symm | exact ⟨i + 1, ⟨hlt, hnx ⟨by omega, by omega, q⟩⟩, by omega, cA⟩
    · rw [decide_eq_false q] at ht
      repeat' ((first | (refine kO 7 rfl ?_; first | refine rG (fun _ z => ⟨_, ht, z⟩) ?_) | refine tG ?_ | exact True.intro | refine brp (fun h => ?_) fun h => ?_ | refine opsA_ifp rfl rfl rfl (fun h => ?_) fun h => ?_ | refine opsA_unlessp rfl rfl rfl (fun h => ?_) fun h => ?_) <;> (try conv => whnf))
      all_goals first | (exfalso; omega) | exact resB (decide_eq_false (hno fun hh => q hh.2.2)).symm
  obtain rfl : i = p.tests.length := by omega
  have hte := hp
  clear hp hi hlt
  (try (refine tG ?_; try exact True.intro))
  refine loop_ind (ι := Nat) (fun i => i ≤ p.parts.length ∧ ∀ j < i, fewC p j) (fun i => p.parts.length - i) (fun i => ⟨[(1, pP 0), (5, vI i)], [(0, some (bxP p))], 1⟩) 0 cA ⟨Nat.zero_le _, fun j hj => by omega⟩ ?_
  rintro i ⟨hi, hp⟩
  by_cases hlt : i < p.parts.length
  · have he := map_at (f := ptC) hlt ([], [])
    have hno : ¬ fewC p i → ¬ fewP p := fun h hh => h (hh.2.2.2.1 i hlt)
    have hnx := fun (h : fewC p i) => up_succ hp h
    have ht := lawTexts_sat (p.parts.getD i ([], [])).2 (h6 i hlt)
    unfold fewC at hno hnx
    generalize p.parts.getD i ([], []) = x at *
    rcases x with ⟨nm, vs⟩
    have he : (p.parts.map ptC)[i]? = some [T nm, .view (strs vs)] := he
    dsimp only at hno hnx ht
    by_cases q : txOk vs
    · rw [decide_eq_true q] at ht
      repeat' ((first | (refine kO 7 rfl ?_; first | refine rG (fun _ z => ⟨_, ht, z⟩) ?_) | refine tG ?_ | exact True.intro | refine brp (fun h => ?_) fun h => ?_ | refine opsA_ifp rfl rfl rfl (fun h => ?_) fun h => ?_ | refine opsA_unlessp rfl rfl rfl (fun h => ?_) fun h => ?_) <;> (try conv => whnf))
      all_goals first | (exfalso; omega) | exact resB (decide_eq_false (hno fun hh => by omega)).symm | exact ⟨i + 1, ⟨hlt, hnx ⟨by omega, q⟩⟩, by omega, cA⟩
    · rw [decide_eq_false q] at ht
      repeat' ((first | (refine kO 7 rfl ?_; first | refine rG (fun _ z => ⟨_, ht, z⟩) ?_) | refine tG ?_ | exact True.intro | refine brp (fun h => ?_) fun h => ?_ | refine opsA_ifp rfl rfl rfl (fun h => ?_) fun h => ?_ | refine opsA_unlessp rfl rfl rfl (fun h => ?_) fun h => ?_) <;> (try conv => whnf))
      all_goals first | (exfalso; omega) | exact resB (decide_eq_false (hno fun hh => q hh.2)).symm
  obtain rfl : i = p.parts.length := by omega
  have ht := lawTexts_sat p.gates h2
  have e : decide (txOk p.gates) = decide (fewP p) := by
    rw [Bool.eq_iff_iff]; simp only [decide_eq_true_iff]
    exact ⟨fun h => ⟨h0, hpe, hte, hp, h⟩, fun h => h.2.2.2.2⟩
  rw [e] at ht
  repeat' ((first | (refine kO 7 rfl ?_; first | refine rG (fun _ z => ⟨_, ht, z⟩) ?_) | refine tG ?_ | exact True.intro | refine brp (fun h => ?_) fun h => ?_ | refine opsA_ifp rfl rfl rfl (fun h => ?_) fun h => ?_ | refine opsA_unlessp rfl rfl rfl (fun h => ?_) fun h => ?_) <;> (try conv => whnf))
  all_goals first | (exfalso; omega) | rfl
end Go.Proofs.Tryz
namespace Go.Proofs.Tryz
open Go.Fw Go.IntWalk Go.Plain
set_option maxRecDepth 100000
set_option maxHeartbeats 8000000
theorem set_same {α : Type} {l : List α} {i : Nat} {x : α} (h : l[i]? = some x) : l.set i x = l := by
  obtain ⟨h1, h2⟩ := List.getElem?_eq_some_iff.1 h
  subst h2
  exact List.set_getElem_self h1
theorem uvM {α : Type} {f : α → List SC} {l : List α} {z : Nat} (h : ∀ x, (f x).length = z) : (SC.view ([] ++ l.map f)).uni z := by
  intro e he
  obtain ⟨x, _, rfl⟩ := List.mem_map.1 (by simpa using he)
  exact h x
theorem lvM {α : Type} {f : α → List SC} {l : List α} (h : l.length ≤ 1000) : (SC.view ([] ++ l.map f)).len ≤ LIM := by simp [SC.len, LIM]; omega
theorem copyPlant_sat {p : Pl} (hs : Small p) : Sat cx.P cx.gl 9 [(true, plC p)] (.one (true, plC p)) := by
  have l1 : (p.people.map peC).length = p.people.length := by simp
  have l3 : (p.tests.map tsC).length = p.tests.length := by simp
  have l4 : (p.parts.map ptC).length = p.parts.length := by simp
  have h1 := hs.pe
  have h2 := hs.ga
  have h3 := hs.te
  have h4 := hs.pa
  have cg := copyTexts_sat p.gates (by omega)
  refine sF f9 ?_
  repeat ((first | (refine kO 7 rfl ?_; first | refine rG (fun _ z => ⟨_, cg, z⟩) ?_) | refine tG ?_ | exact True.intro); (try conv => whnf))
  refine rG (fun _ z => ⟨(by first | exact lvM h1 | exact uvM fun _ => rfl), (by first | exact lvM h1 | exact uvM fun _ => rfl), z⟩) ?_
  conv => whnf
  repeat ((first | (refine kO 7 rfl ?_; first | refine rG (fun _ z => ⟨_, cg, z⟩) ?_) | refine tG ?_ | exact True.intro); (try conv => whnf))
  refine loop_ind (ι := Nat × List (List SC)) (fun x => x.1 ≤ p.tests.length ∧ x.2 = p.tests.map tsC) (fun x => p.tests.length - x.1) (fun x => ⟨[(1, pP 0), (2, pP 1), (3, vI x.1)], [(0, some (.box 27 [.own 2, .own 3, .own 4, .st (.view (p.parts.map ptC)), .st (J p.shock), .st (J p.life)])), (1, some (.box 27 [.nil, .nil, .nil, .nil, .st (J 0), .st (J 0)])), (2, some (.row true 2 (.view (p.people.map peC)))), (3, some (.row true 1 (.view (strs p.gates)))), (4, some (.row true 6 (.view x.2)))], 5⟩) (0, p.tests.map tsC) cA ⟨Nat.zero_le _, rfl⟩ ?_
  rintro ⟨i, L⟩ ⟨hi, hL⟩
  dsimp only at hi hL ⊢
  have hLl : L.length = p.tests.length := by rw [hL]; exact l3
  by_cases hlt : i < p.tests.length
  · have he := kinds_eq hlt
    have ct := (copyTexts_sat (p.tests.getD i ts0).needs (by have := hs.td i hlt; omega)).own_one
    have hss := set_same he
    rw [← hL] at he hss
    generalize p.tests.getD i ts0 = x at *
    rcases x with ⟨nm, kd, nd, ru, lo, hi'⟩
    have he : L[i]? = some [T nm, J kd, .view (strs nd), T ru, J lo, J hi'] := he
    have hss : L.set i [T nm, J kd, .view (strs nd), T ru, J lo, J hi'] = L := hss
    dsimp only at ct
    repeat ((first | (refine kO 7 rfl ?_; first | refine rG (fun _ z => ⟨_, ct, z⟩) ?_) | refine tG ?_ | exact True.intro); (try conv => whnf))
    refine rG (fun _ z => ⟨_, he, z⟩) ?_
    conv => whnf
    repeat ((first | (refine kO 7 rfl ?_; first | refine rG (fun _ z => ⟨_, ct, z⟩) ?_) | refine tG ?_ | exact True.intro); (try conv => whnf))
    exact ⟨(i + 1, L.set i [T nm, J kd, .view (strs nd), T ru, J lo, J hi']), ⟨hlt, by rw [hss]; exact hL⟩, by dsimp only; omega, cA⟩
  obtain rfl : i = p.tests.length := by omega
  subst hL
  clear hi hlt hLl
  (try (refine tG ?_; try exact True.intro))
  refine rG (fun _ z => ⟨(by first | exact lvM h4 | exact uvM fun _ => rfl), (by first | exact lvM h4 | exact uvM fun _ => rfl), z⟩) ?_
  conv => whnf
  (try (refine tG ?_; try exact True.intro))
  refine loop_ind (ι := Nat × List (List SC)) (fun x => x.1 ≤ p.parts.length ∧ x.2 = p.parts.map ptC) (fun x => p.parts.length - x.1) (fun x => ⟨[(1, pP 0), (2, pP 1), (4, vI x.1)], [(0, some (.box 27 [.own 2, .own 3, .own 4, .own 5, .st (J p.shock), .st (J p.life)])), (1, some (.box 27 [.nil, .nil, .nil, .nil, .st (J 0), .st (J 0)])), (2, some (.row true 2 (.view (p.people.map peC)))), (3, some (.row true 1 (.view (strs p.gates)))), (4, some (.row true 6 (.view (p.tests.map tsC)))), (5, some (.row true 2 (.view x.2)))], 6⟩) (0, p.parts.map ptC) cA ⟨Nat.zero_le _, rfl⟩ ?_
  rintro ⟨i, L⟩ ⟨hi, hL⟩
  dsimp only at hi hL ⊢
  have hLl : L.length = p.parts.length := by rw [hL]; exact l4
  by_cases hlt : i < p.parts.length
  · have he := map_at (f := ptC) hlt ([], [])
    have ct := (copyTexts_sat (p.parts.getD i ([], [])).2 (by have := hs.qv i hlt; omega)).own_one
    have hss := set_same he
    rw [← hL] at he hss
    generalize p.parts.getD i ([], []) = x at *
    rcases x with ⟨nm, vs⟩
    have he : L[i]? = some [T nm, .view (strs vs)] := he
    have hss : L.set i [T nm, .view (strs vs)] = L := hss
    dsimp only at ct
    repeat ((first | (refine kO 7 rfl ?_; first | refine rG (fun _ z => ⟨_, ct, z⟩) ?_) | refine tG ?_ | exact True.intro); (try conv => whnf))
    refine rG (fun _ z => ⟨_, he, z⟩) ?_
    conv => whnf
    repeat ((first | (refine kO 7 rfl ?_; first | refine rG (fun _ z => ⟨_, ct, z⟩) ?_) | refine tG ?_ | exact True.intro); (try conv => whnf))
    exact ⟨(i + 1, L.set i [T nm, .view (strs vs)]), ⟨hlt, by rw [hss]; exact hL⟩, by dsimp only; omega, cA⟩
  obtain rfl : i = p.parts.length := by omega
  subst hL
  (try (refine tG ?_; try exact True.intro))
  (first | done | rfl | exact True.intro)
end Go.Proofs.Tryz
namespace Go.Proofs.Tryz
open Go.Fw Go.IntWalk Go.Plain
set_option maxRecDepth 100000
set_option maxHeartbeats 8000000
theorem law_plants (ha : Sat cx.P cx.gl 6 [] (.one (Bo true))) (p : Pl) (n : Str) (h1 : p.people.length ≤ 9223372036854775807) (h2 : p.gates.length ≤ 9223372036854775807) (h3 : p.tests.length ≤ 9223372036854775807) (h4 : p.parts.length ≤ 9223372036854775807)
    (h5 : ∀ i < p.tests.length, (p.tests.getD i ts0).needs.length ≤ 9223372036854775807) (h6 : ∀ i < p.parts.length, (p.parts.getD i ([], [])).2.length ≤ 9223372036854775807) : Sat cx.P cx.gl 3 [(true, plC p), SS n] (.one (Bo true)) := by
  have hf := few_sat p h1 h2 h3 h4 h5 h6
  by_cases q : fewP p
  rotate_left
  · rw [decide_eq_false q] at hf
    refine sF f3 ?_
    repeat' ((first | (refine kO 7 rfl ?_; first | refine rG (fun _ z => ⟨_, ha, z⟩) ?_ | refine rG (fun _ z => ⟨_, hf, z⟩) ?_) | refine tG ?_ | exact True.intro | refine brp (fun h => ?_) fun h => ?_ | refine opsA_ifp rfl rfl rfl (fun h => ?_) fun h => ?_ | refine opsA_unlessp rfl rfl rfl (fun h => ?_) fun h => ?_) <;> (try conv => whnf))
    all_goals first | (exfalso; omega) | rfl
  rw [decide_eq_true q] at hf
  by_cases hn : n.length ≤ 20
  rotate_left
  · refine sF f3 ?_
    repeat' ((first | (refine kO 7 rfl ?_; first | refine rG (fun _ z => ⟨_, ha, z⟩) ?_ | refine rG (fun _ z => ⟨_, hf, z⟩) ?_) | refine tG ?_ | exact True.intro | refine brp (fun h => ?_) fun h => ?_ | refine opsA_ifp rfl rfl rfl (fun h => ?_) fun h => ?_ | refine opsA_unlessp rfl rfl rfl (fun h => ?_) fun h => ?_) <;> (try conv => whnf))
    all_goals first | (exfalso; omega) | rfl
  have hs := few_small q
  have c1 := copyPlant_sat hs
  have c2 : Sat cx.P cx.gl 8 [(true, plC p)] (.tup [I (p.err reF).1, I (p.err reF).2]) := checkPlant_sat hs
  have c3 := voidedBy_sat hs n
  have c4 : Sat cx.P cx.gl 11 [(true, plC p)] (.tup [I (p.err reF).1, I (p.err reF).2]) := refCheckPlant_sat hs
  have c5 := refPartOf_sat p n hs.pa
  have hvb : ∀ e, vbR p e n = if e ≠ 0 then ([], e) else if n ∈ p.qnames then (voided p.tests (partD p n).2, 0) else ([], 6) := fun _ => rfl
  generalize p.err reF = r at *
  delta V1 at c3
  by_cases e0 : r.2 = 0
  · have hv := hvb r.2
    rw [e0] at c2 c3 c4 hv
    rw [if_neg (by decide)] at hv
    by_cases q2 : n ∈ p.qnames
    · rw [if_pos q2] at hv
      rw [hv] at c3
      obtain ⟨k, hk, e⟩ := idx_in q2
      have hkl : k < p.parts.length := by simpa [Pl.qnames] using hk
      have hd : partD p n = p.parts.getD k ([], []) := by unfold partD; rw [if_pos q2, e, Int.toNat_natCast]
      have c6 := refVoided_sat hs k hkl
      have hvl := voided_len p.tests (p.parts.getD k ([], [])).2
      have hte := hs.te
      rw [hd] at c3
      rw [e] at c5
      generalize voided p.tests (p.parts.getD k ([], [])).2 = vs at *
      have c7 : Sat cx.P cx.gl 13 [(false, [.view (strs vs)]), (false, [.view (strs vs)])] (.one (Bo true)) := by
        have := texts_sat vs vs (by omega) (by omega)
        rwa [decide_eq_true rfl] at this
      dsimp only at c3
      refine sF f3 ?_
      repeat' ((first | (refine kO 7 rfl ?_; first | refine rG (fun _ z => ⟨_, ha, z⟩) ?_ | refine rG (fun _ z => ⟨_, hf, z⟩) ?_ | refine rG (fun _ z => ⟨_, c1, z⟩) ?_ | refine rG (fun _ z => ⟨_, c2, z⟩) ?_ | refine rG (fun _ z => ⟨_, c3, z⟩) ?_ | refine rG (fun _ z => ⟨_, c4, z⟩) ?_ | refine rG (fun _ z => ⟨_, c5, z⟩) ?_ | refine rG (fun _ z => ⟨_, c6, z⟩) ?_ | refine rG (fun _ z => ⟨_, c7, z⟩) ?_) | refine tG ?_ | exact True.intro | refine brp (fun h => ?_) fun h => ?_ | refine opsA_ifp rfl rfl rfl (fun h => ?_) fun h => ?_ | refine opsA_unlessp rfl rfl rfl (fun h => ?_) fun h => ?_) <;> (try conv => whnf))
      all_goals first | (exfalso; omega) | rfl
    · rw [if_neg q2] at hv
      rw [hv] at c3
      rw [idxI_no q2] at c5
      dsimp only at c3
      refine sF f3 ?_
      repeat' ((first | (refine kO 7 rfl ?_; first | refine rG (fun _ z => ⟨_, ha, z⟩) ?_ | refine rG (fun _ z => ⟨_, hf, z⟩) ?_ | refine rG (fun _ z => ⟨_, c1, z⟩) ?_ | refine rG (fun _ z => ⟨_, c2, z⟩) ?_ | refine rG (fun _ z => ⟨_, c3, z⟩) ?_ | refine rG (fun _ z => ⟨_, c4, z⟩) ?_ | refine rG (fun _ z => ⟨_, c5, z⟩) ?_) | refine tG ?_ | exact True.intro | refine brp (fun h => ?_) fun h => ?_ | refine opsA_ifp rfl rfl rfl (fun h => ?_) fun h => ?_ | refine opsA_unlessp rfl rfl rfl (fun h => ?_) fun h => ?_) <;> (try conv => whnf))
      all_goals first | (exfalso; omega) | rfl
  · have hv := hvb r.2
    rw [if_pos e0] at hv
    rw [hv] at c3
    dsimp only at c3
    refine sF f3 ?_
    repeat' ((first | (refine kO 7 rfl ?_; first | refine rG (fun _ z => ⟨_, ha, z⟩) ?_ | refine rG (fun _ z => ⟨_, hf, z⟩) ?_ | refine rG (fun _ z => ⟨_, c1, z⟩) ?_ | refine rG (fun _ z => ⟨_, c2, z⟩) ?_ | refine rG (fun _ z => ⟨_, c3, z⟩) ?_ | refine rG (fun _ z => ⟨_, c4, z⟩) ?_) | refine tG ?_ | exact True.intro | refine brp (fun h => ?_) fun h => ?_ | refine opsA_ifp rfl rfl rfl (fun h => ?_) fun h => ?_ | refine opsA_unlessp rfl rfl rfl (fun h => ?_) fun h => ?_) <;> (try conv => whnf))
    all_goals first | (exfalso; omega) | rfl
end Go.Proofs.Tryz
