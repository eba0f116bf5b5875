/- Parts of the proof, joined. -/

import Derived.Test.YtnbfdfmphbehoaaGreatDoorFe
import Derived.Test.YtnbfdfmphbehoaaGreatDoorZa
import Derived.Test.YtnbfdfmphbehoaaGreatDoorVa
namespace Go.Proofs.Tryz
open Go.Fw Go.IntWalk Go.Plain
set_option maxRecDepth 100000
set_option maxHeartbeats 8000000
theorem part_any (s : List UInt8) (hl : s.length ≤ 1000000) : ∃ v, Sat cx.P cx.gl 148 [SS s] (.tup [I v, Bo (wN false 4 s).isSome]) ∧ ∀ n, wN false 4 s = some n → v = n := by
  have c := number_sat s 4 (by decide) hl
  cases h : numN 4 s with
  | none =>
    rw [h] at c
    rw [wN_none h]
    refine ⟨0, ?_, fun n hn => by cases hn⟩
    refine sF f148 ?_
    repeat' ((first | (refine kO 7 rfl ?_; first | refine rG (fun _ z => ⟨_, c, z⟩) ?_) | refine tG ?_ | exact True.intro | refine brp (fun h => ?_) fun h => ?_ | refine opsA_ifp rfl rfl rfl (fun h => ?_) fun h => ?_ | refine opsA_unlessp rfl rfl rfl (fun h => ?_) fun h => ?_) <;> (try conv => whnf))
    all_goals exact rfl
  | some n =>
    rw [h] at c
    have hlen := numN_len h
    rw [wN_pos h]
    by_cases h45 : (s.getD 0 0).toNat = 45
    · rw [if_pos h45]
      refine ⟨n, ?_, fun n hn => by cases hn⟩
      refine sF f148 ?_
      (try (refine tG ?_; try exact True.intro))
      repeat ((first | (refine kO 7 rfl ?_; first | refine rG (fun _ z => ⟨_, c, z⟩) ?_) | refine tG ?_ | exact True.intro); (try conv => whnf))
      exact tupB (c := false) (by rw [h45]; rfl)
    · rw [if_neg h45]
      refine ⟨n, ?_, fun m hm => by simpa using hm⟩
      refine sF f148 ?_
      (try (refine tG ?_; try exact True.intro))
      repeat ((first | (refine kO 7 rfl ?_; first | refine rG (fun _ z => ⟨_, c, z⟩) ?_) | refine tG ?_ | exact True.intro); (try conv => whnf))
      exact tupB (c := true) (bne_iff_ne.2 (by omega))
theorem refFr_any (s : List UInt8) (hl : s.length ≤ 10000) : ∃ v u, Sat cx.P cx.gl 193 [SS s] (.tup [F2 v u, Bo (frN s).isSome]) ∧ ∀ p, frN s = some p → p = (v, u) := by
  obtain ⟨h3, h4⟩ := spl_len 47 s
  have c1 := cut_sat s 47 (by omega)
  rw [show (47 : UInt8).toNat = 47 from rfl, cutR_spl] at c1
  have e : frN s = twoL (wN false 4) (wN false 4) (spl 47 s) := rfl
  rw [e]
  clear e
  generalize spl 47 s = ws at *
  have hn := strs_len ws
  match ws, h4 with
  | [], _ =>
    refine ⟨0, 0, ?_, fun p hp => by cases hp⟩
    refine sF f193 ?_
    refine aS ?_; (refine aR ?_; conv => whnf); (try (refine tR ?_; try exact True.intro))
    refine awp_seqw ?_; (refine aR ?_; conv => whnf); repeat ((first | (refine kO 7 rfl ?_; first | refine rG (fun _ z => ⟨_, c1, z⟩) ?_) | refine tR ?_ | exact True.intro); (try conv => whnf))
    refine ⟨_, freeze_sub 6 rfl, ?_⟩
    (try (refine tG ?_; try exact True.intro))
    (first | done | rfl | exact True.intro)
  | [a], _ =>
    refine ⟨0, 0, ?_, fun p hp => by cases hp⟩
    refine sF f193 ?_
    refine aS ?_; (refine aR ?_; conv => whnf); (try (refine tR ?_; try exact True.intro))
    refine awp_seqw ?_; (refine aR ?_; conv => whnf); repeat ((first | (refine kO 7 rfl ?_; first | refine rG (fun _ z => ⟨_, c1, z⟩) ?_) | refine tR ?_ | exact True.intro); (try conv => whnf))
    refine ⟨_, freeze_sub 6 rfl, ?_⟩
    (try (refine tG ?_; try exact True.intro))
    (first | done | rfl | exact True.intro)
  | [a, b], h4 =>
    obtain ⟨v, c2, k2⟩ := part_any a (by have := h4 a (by simp); omega)
    obtain ⟨u, c3, k3⟩ := part_any b (by have := h4 b (by simp); omega)
    refine ⟨v, u, ?_, fun p hp => ?_⟩
    · show Sat _ _ _ _ (.tup [F2 v u, Bo (Option.isSome ((wN false 4 a).bind fun x => (wN false 4 b).map fun y => (x, y)))])
      rw [bind2.1]
      clear k2 k3
      generalize (wN false 4 a).isSome = x at *
      generalize (wN false 4 b).isSome = y at *
      refine sF f193 ?_
      refine aS ?_; (refine aR ?_; conv => whnf); (try (refine tR ?_; try exact True.intro))
      refine awp_seqw ?_; (refine aR ?_; conv => whnf); repeat ((first | (refine kO 7 rfl ?_; first | refine rG (fun _ z => ⟨_, c1, z⟩) ?_) | refine tR ?_ | exact True.intro); (try conv => whnf))
      refine ⟨_, freeze_sub 6 rfl, ?_⟩
      repeat' ((first | (refine kO 7 rfl ?_; first | refine rG (fun _ z => ⟨_, c2, z⟩) ?_ | refine rG (fun _ z => ⟨_, c3, z⟩) ?_) | refine tG ?_ | exact True.intro | refine brp (fun h => ?_) fun h => ?_ | refine opsA_ifp rfl rfl rfl (fun h => ?_) fun h => ?_ | refine opsA_unlessp rfl rfl rfl (fun h => ?_) fun h => ?_) <;> (try conv => whnf))
      all_goals first | (exact rfl) | (cases x <;> first | (exact rfl) | (exact absurd rfl h) | (cases h)) | trace_state
    · obtain ⟨h5, h6⟩ := bind2.2 p hp
      rw [k2 _ h5, k3 _ h6]
  | a :: b :: c :: r, _ =>
    have hlen : (strs (a :: b :: c :: r)).length = r.length + 3 := by simp
    refine ⟨0, 0, ?_, fun p hp => by cases hp⟩
    refine sF f193 ?_
    refine aS ?_; (refine aR ?_; conv => whnf); (try (refine tR ?_; try exact True.intro))
    refine awp_seqw ?_; (refine aR ?_; conv => whnf); repeat ((first | (refine kO 7 rfl ?_; first | refine rG (fun _ z => ⟨_, c1, z⟩) ?_) | refine tR ?_ | exact True.intro); (try conv => whnf))
    refine ⟨_, freeze_sub 6 rfl, ?_⟩
    (try (refine tG ?_; try exact True.intro))
    (first | done | rfl | exact True.intro)
theorem refSp_any (s : List UInt8) (hl : s.length ≤ 10000) : ∃ q, Sat cx.P cx.gl 149 [SS s] (.tup [(true, sp q), Bo (spN s).isSome]) ∧ ∀ p, spN s = some p → p = q := by
  obtain ⟨h3, h4⟩ := spl_len 32 s
  have c1 := cut_sat s 32 (by omega)
  rw [show (32 : UInt8).toNat = 32 from rfl, cutR_spl] at c1
  have e : spN s = (twoL frN frN (spl 32 s)).map (fun p => (p.1.1, p.1.2, p.2.1, p.2.2)) := rfl
  rw [e]
  clear e
  generalize spl 32 s = ws at *
  have hn := strs_len ws
  match ws, h4 with
  | [], _ =>
    refine ⟨(0, 0, 0, 0), ?_, fun p hp => by cases hp⟩
    refine sF f149 ?_
    refine aS ?_; (refine aR ?_; conv => whnf); (try (refine tR ?_; try exact True.intro))
    refine awp_seqw ?_; (refine aR ?_; conv => whnf); repeat ((first | (refine kO 7 rfl ?_; first | refine rG (fun _ z => ⟨_, c1, z⟩) ?_) | refine tR ?_ | exact True.intro); (try conv => whnf))
    refine ⟨_, freeze_sub 6 rfl, ?_⟩
    (try (refine tG ?_; try exact True.intro))
    (first | done | rfl | exact True.intro)
  | [a], _ =>
    refine ⟨(0, 0, 0, 0), ?_, fun p hp => by cases hp⟩
    refine sF f149 ?_
    refine aS ?_; (refine aR ?_; conv => whnf); (try (refine tR ?_; try exact True.intro))
    refine awp_seqw ?_; (refine aR ?_; conv => whnf); repeat ((first | (refine kO 7 rfl ?_; first | refine rG (fun _ z => ⟨_, c1, z⟩) ?_) | refine tR ?_ | exact True.intro); (try conv => whnf))
    refine ⟨_, freeze_sub 6 rfl, ?_⟩
    (try (refine tG ?_; try exact True.intro))
    (first | done | rfl | exact True.intro)
  | [a, b], h4 =>
    obtain ⟨v, u, c2, k2⟩ := refFr_any a (by have := h4 a (by simp); omega)
    obtain ⟨v', u', c3, k3⟩ := refFr_any b (by have := h4 b (by simp); omega)
    refine ⟨(v, u, v', u'), ?_, fun p hp => ?_⟩
    · show Sat _ _ _ _ (.tup [(true, sp (v, u, v', u')), Bo (Option.isSome (((frN a).bind fun x => (frN b).map fun y => (x, y)).map fun p => (p.1.1, p.1.2, p.2.1, p.2.2)))])
      rw [Option.isSome_map, bind2.1]
      clear k2 k3
      generalize (frN a).isSome = x at *
      generalize (frN b).isSome = y at *
      refine sF f149 ?_
      refine aS ?_; (refine aR ?_; conv => whnf); (try (refine tR ?_; try exact True.intro))
      refine awp_seqw ?_; (refine aR ?_; conv => whnf); repeat ((first | (refine kO 7 rfl ?_; first | refine rG (fun _ z => ⟨_, c1, z⟩) ?_) | refine tR ?_ | exact True.intro); (try conv => whnf))
      refine ⟨_, freeze_sub 6 rfl, ?_⟩
      repeat' ((first | (refine kO 7 rfl ?_; first | refine rG (fun _ z => ⟨_, c2, z⟩) ?_ | refine rG (fun _ z => ⟨_, c3, z⟩) ?_) | refine tG ?_ | exact True.intro | refine brp (fun h => ?_) fun h => ?_ | refine opsA_ifp rfl rfl rfl (fun h => ?_) fun h => ?_ | refine opsA_unlessp rfl rfl rfl (fun h => ?_) fun h => ?_) <;> (try conv => whnf))
      all_goals first | (exact rfl) | (cases x <;> first | (exact rfl) | (exact absurd rfl h) | (cases h)) | trace_state
    · obtain ⟨z, hz, rfl⟩ := Option.map_eq_some_iff.1 hp
      obtain ⟨h5, h6⟩ := bind2.2 z hz
      rw [k2 _ h5, k3 _ h6]
  | a :: b :: c :: r, _ =>
    have hlen : (strs (a :: b :: c :: r)).length = r.length + 3 := by simp
    refine ⟨(0, 0, 0, 0), ?_, fun p hp => by cases hp⟩
    refine sF f149 ?_
    refine aS ?_; (refine aR ?_; conv => whnf); (try (refine tR ?_; try exact True.intro))
    refine awp_seqw ?_; (refine aR ?_; conv => whnf); repeat ((first | (refine kO 7 rfl ?_; first | refine rG (fun _ z => ⟨_, c1, z⟩) ?_) | refine tR ?_ | exact True.intro); (try conv => whnf))
    refine ⟨_, freeze_sub 6 rfl, ?_⟩
    (try (refine tG ?_; try exact True.intro))
    (first | done | rfl | exact True.intro)
end Go.Proofs.Tryz
namespace Go.Proofs.Tryz
open Go.Fw Go.IntWalk Go.Plain
set_option maxRecDepth 100000
set_option maxHeartbeats 8000000
end Go.Proofs.Tryz
namespace Go.Proofs.Tryz
open Go.Fw Go.IntWalk Go.Plain
set_option maxRecDepth 100000
set_option maxHeartbeats 8000000
end Go.Proofs.Tryz
namespace Go.Proofs.Tryz
open Go.Fw Go.IntWalk Go.Plain
set_option maxRecDepth 100000
set_option maxHeartbeats 8000000
end Go.Proofs.Tryz
namespace Go.Proofs.Tryz
open Go.Fw Go.IntWalk Go.Plain
set_option maxRecDepth 100000
set_option maxHeartbeats 8000000
theorem refRulesErr_sat (e : Int) (q : Sp) (ch : List Sp) (hq : SpI q) (hch : ∀ s ∈ ch, SpI s) : Sat cx.P cx.gl 150 [Ru e q ch] (.one (I (rulesErr e q ch))) := by
  have g := refFactorErr_sat q hq
  unfold rulesErr
  by_cases h1 : 0 ≤ e ∧ e ≤ 100
  · rw [if_pos h1]
    by_cases h2 : facErr q = 0
    · rw [if_neg (by omega)]
      rw [h2] at g
      by_cases h3 : ch.length ≤ 4
      · rw [if_pos h3]
        have hlen : (ch.map sp).length = ch.length := List.length_map ..
        refine sF f150 ?_
        repeat ((first | (refine kO 7 rfl ?_; first | refine rG (fun _ z => ⟨_, within_p _ _ _, z⟩) ?_ | refine rG (fun _ z => ⟨_, g, z⟩) ?_) | refine tG ?_ | exact True.intro); (try conv => whnf))
        refine loop_ind (ι := Nat) (fun i => i ≤ ch.length ∧ fs (ch.map facErr) = fs ((ch.drop i).map facErr)) (fun i => ch.length - i) (fun i => ⟨[(1, pP 0), (4, vI i)], [(0, some (.box 150 [.st (J e), .st (J q.1), .st (J q.2.1), .st (J q.2.2.1), .st (J q.2.2.2), .st (.view (ch.map sp))]))], 1⟩) 0 cA ⟨Nat.zero_le _, rfl⟩ ?_
        rintro i ⟨hi, he⟩
        (try (refine tG ?_; try exact True.intro))
        ((first | refine brp (fun h => ?_) fun h => ?_ | refine opsA_ifp rfl rfl rfl (fun h => ?_) fun h => ?_ | refine opsA_unlessp rfl rfl rfl (fun h => ?_) fun h => ?_) <;> (try conv => whnf))
        · have hlt : i < ch.length := by omega
          have hget := sp_get hlt
          have g := refFactorErr_sat _ (hch _ (sp_mem hlt))
          rw [fs_drop hlt] at he
          repeat ((first | (refine kO 7 rfl ?_; first | refine rG (fun _ z => ⟨_, g, z⟩) ?_) | refine tG ?_ | exact True.intro); (try conv => whnf))
          ((first | refine brp (fun h => ?_) fun h => ?_ | refine opsA_ifp rfl rfl rfl (fun h => ?_) fun h => ?_ | refine opsA_unlessp rfl rfl rfl (fun h => ?_) fun h => ?_) <;> (try conv => whnf))
          · (try (refine tG ?_; try exact True.intro))
            rw [he, if_pos h]; (first | done | rfl | exact True.intro)
          · rw [if_neg h] at he
            (try (refine tG ?_; try exact True.intro))
            exact ⟨i + 1, ⟨hlt, he⟩, by omega, cA⟩
        · obtain rfl : i = ch.length := by omega
          (try (refine tG ?_; try exact True.intro))
          rw [he, List.drop_length]; (first | done | rfl | exact True.intro)
      · rw [if_neg h3]
        have hlen : (ch.map sp).length = ch.length := List.length_map ..
        refine sF f150 ?_
        repeat ((first | (refine kO 7 rfl ?_; first | refine rG (fun _ z => ⟨_, within_p _ _ _, z⟩) ?_ | refine rG (fun _ z => ⟨_, g, z⟩) ?_) | refine tG ?_ | exact True.intro); (try conv => whnf))
        (first | done | rfl | exact True.intro)
    · rw [if_pos h2]
      generalize facErr q = z at *
      refine sF f150 ?_
      repeat ((first | (refine kO 7 rfl ?_; first | refine rG (fun _ z => ⟨_, within_p _ _ _, z⟩) ?_ | refine rG (fun _ z => ⟨_, g, z⟩) ?_) | refine tG ?_ | exact True.intro); (try conv => whnf))
      (first | done | rfl | exact True.intro)
  · rw [if_neg h1]
    refine sF f150 ?_
    repeat ((first | (refine kO 7 rfl ?_; first | refine rG (fun _ z => ⟨_, within_p _ _ _, z⟩) ?_) | refine tG ?_ | exact True.intro); (try conv => whnf))
    (first | done | rfl | exact True.intro)
end Go.Proofs.Tryz
namespace Go.Proofs.Tryz
open Go.Fw Go.IntWalk Go.Plain
set_option maxRecDepth 100000
set_option maxHeartbeats 8000000
theorem strs_at {l : List (List UInt8)} {i : Nat} (h : i < l.length) : (strs l)[i]? = some [.lit (.string (B (l.getD i [])))] := by
  simp [List.getD_eq_getElem?_getD, h]
end Go.Proofs.Tryz
namespace Go.Proofs.Tryz
open Go.Fw Go.IntWalk Go.Plain
set_option maxRecDepth 100000
set_option maxHeartbeats 8000000
end Go.Proofs.Tryz
namespace Go.Proofs.Tryz
open Go.Fw Go.IntWalk Go.Plain
set_option maxRecDepth 100000
set_option maxHeartbeats 8000000
def endRul (o : Option (Int × SpT × List SpT)) : (Int × SpT × List SpT) × Int := match o with
  | some (e, q, ch) => if rulesErr e q ch = 0 then ((e, q, ch), 0) else ((0, (0, 0, 0, 0), []), rulesErr e q ch)
  | none => ((0, (0, 0, 0, 0), []), 7)
abbrev PQ (r : (Int × SpT × List SpT) × Int) : List SV := [Ru r.1.1 r.1.2.1 r.1.2.2, I r.2]
abbrev z4 : SpT := (0, 0, 0, 0)
theorem sp_uni (l : List Sp) (x : Sp) : (SC.view (l.map sp ++ [sp x])).uni 4 := by
  intro e he
  rcases List.mem_append.1 he with he | he
  · obtain ⟨w, _, rfl⟩ := List.mem_map.1 he
    rfl
  · rw [List.mem_singleton] at he; subst he; rfl
theorem wParseRules_sat (s : List UInt8) (hl : s.length ≤ 10000) : Sat cx.P cx.gl 92 [SS s] (.tup (PQ (endRul (rulPre (spl 59 s))))) := by
  obtain ⟨h1, h2⟩ := cutS_spl s 59
  obtain ⟨h3, h4⟩ := spl_len 59 s
  have h5 := spl_ne 59 s
  have c1 := split_sat s 59 (by omega) h2
  rw [h1, show (59 : UInt8).toNat = 59 from rfl] at c1
  generalize spl 59 s = ws at *
  have hn := strs_len ws
  have h6 : 0 < ws.length := List.length_pos_iff.2 h5
  have he0 := strs_at h6
  have hw0 : (ws.getD 0 []).length ≤ 10000 := by
    have := h4 (ws.getD 0 []) (by rw [show ws.getD 0 [] = ws[0] by simp [List.getD_eq_getElem?_getD, h6]]; exact List.getElem_mem h6)
    omega
  cases hd : wN false 4 (ws.getD 0 []) with
  | none =>
    obtain ⟨v, c0⟩ := wNumber_no (d := 4) (by omega) hd
    rw [rulPre_no hd]
    generalize ws.getD 0 [] = w at *
    refine sF f92 ?_
    refine aS ?_; (refine aR ?_; conv => whnf); (try (refine tR ?_; try exact True.intro))
    refine aS ?_
    refine aS ?_; (refine aR ?_; conv => whnf); (try (refine tR ?_; try exact True.intro))
    (try refine tB ?_)
    refine awp_seqw ?_; (refine aR ?_; conv => whnf); repeat ((first | (refine kO 7 rfl ?_; first | refine rG (fun _ z => ⟨_, c1, z⟩) ?_) | refine tR ?_ | exact True.intro); (try conv => whnf))
    refine ⟨_, freeze_sub 12 rfl, ?_⟩
    repeat' ((first | (refine kO 7 rfl ?_; first | refine rG (fun _ z => ⟨_, c0, z⟩) ?_) | refine tG ?_ | exact True.intro | refine brp (fun h => ?_) fun h => ?_ | refine opsA_ifp rfl rfl rfl (fun h => ?_) fun h => ?_ | refine opsA_unlessp rfl rfl rfl (fun h => ?_) fun h => ?_) <;> (try conv => whnf))
    all_goals first | (exact rfl) | (exfalso; omega)
  | some n =>
    have c0 := wNumber_ok (d := 4) (by decide) (by omega) hd
    have hsm := fun q ch => rulPre_some (q := q) (ch := ch) hd
    generalize ws.getD 0 [] = w at *
    by_cases h7 : ws.length < 2
    · have e : allO spN (ws.drop 1) = some [] := by rw [List.drop_of_length_le (by omega)]; rfl
      rw [rulPre_nil e]
      refine sF f92 ?_
      refine aS ?_; (refine aR ?_; conv => whnf); (try (refine tR ?_; try exact True.intro))
      refine aS ?_
      refine aS ?_; (refine aR ?_; conv => whnf); (try (refine tR ?_; try exact True.intro))
      (try refine tB ?_)
      refine awp_seqw ?_; (refine aR ?_; conv => whnf); repeat ((first | (refine kO 7 rfl ?_; first | refine rG (fun _ z => ⟨_, c1, z⟩) ?_) | refine tR ?_ | exact True.intro); (try conv => whnf))
      refine ⟨_, freeze_sub 12 rfl, ?_⟩
      repeat' ((first | (refine kO 7 rfl ?_; first | refine rG (fun _ z => ⟨_, c0, z⟩) ?_) | refine tG ?_ | exact True.intro | refine brp (fun h => ?_) fun h => ?_ | refine opsA_ifp rfl rfl rfl (fun h => ?_) fun h => ?_ | refine opsA_unlessp rfl rfl rfl (fun h => ?_) fun h => ?_) <;> (try conv => whnf))
      all_goals first | (exact rfl) | (exfalso; omega)
    · have hps : (strs ws).drop 1 = strs (ws.drop 1) := by simp
      have hpn : ws.length - 1 = (ws.drop 1).length := by simp
      have hpl : (strs (ws.drop 1)).length = (ws.drop 1).length := strs_len _
      have hbd := rulPre_bad (ws := ws)
      have hwl : ∀ w ∈ ws.drop 1, w.length ≤ 10000 := fun w hw => by have := h4 w (List.mem_of_mem_drop hw); omega
      generalize hpd : ws.drop 1 = ps at *
      refine sF f92 ?_
      refine aS ?_; (refine aR ?_; conv => whnf); (try (refine tR ?_; try exact True.intro))
      refine aS ?_
      refine aS ?_; (refine aR ?_; conv => whnf); (try (refine tR ?_; try exact True.intro))
      (try refine tB ?_)
      refine awp_seqw ?_; (refine aR ?_; conv => whnf); repeat ((first | (refine kO 7 rfl ?_; first | refine rG (fun _ z => ⟨_, c1, z⟩) ?_) | refine tR ?_ | exact True.intro); (try conv => whnf))
      refine ⟨_, freeze_sub 12 rfl, ?_⟩
      repeat ((first | (refine kO 7 rfl ?_; first | refine rG (fun _ z => ⟨_, c0, z⟩) ?_) | refine tG ?_ | exact True.intro); (try conv => whnf))
      refine loop_ind (ι := Nat × List Sp) (fun p => (p.1 ≤ ps.length ∧ p.2.length = p.1) ∧ allO spN (ps.take p.1) = some p.2) (fun p => ps.length - p.1)
        (fun p => ⟨[(2, pP 0), (7, pP 1), (37, some (.val (false, [.st (.view (strs ps))]))), (38, vI ps.length), (39, vI p.1)], [(0, some (.box 150 [.st (J 0), .st (J 0), .st (J 0), .st (J 0), .st (J 0), .nil])), (1, some (.box 150 [.st (J n), .st (J (p.2.getD 0 z4).1), .st (J (p.2.getD 0 z4).2.1), .st (J (p.2.getD 0 z4).2.2.1), .st (J (p.2.getD 0 z4).2.2.2), .own 2])), (2, some (.row true 4 (.view ((p.2.drop 1).map sp))))], 3⟩)
        (0, []) (by
          refine Sub.trans (nilb_sub 52 5 4 (.view []) (T := 150) (cs := [.st (J n), .st (J 0), .st (J 0), .st (J 0), .st (J 0), .nil]) (by decide) rfl rfl rfl rfl) ?_
          exact canon_auto (by rw [← hpl]; kernel_rfl)) ⟨⟨Nat.zero_le _, rfl⟩, rfl⟩ ?_
      rintro ⟨i, qs⟩ ⟨⟨hi, ha⟩, hg⟩
      dsimp only at hi ha hg ⊢
      by_cases hlt : i < ps.length
      · have he := strs_at hlt
        have hwl : (ps.getD i []).length ≤ 10000 := hwl _ (by rw [show ps.getD i [] = ps[i] by simp [List.getD_eq_getElem?_getD, hlt]]; exact List.getElem_mem hlt)
        have hz := fun n => allO_snoc hlt hg (n := n)
        have hbad := allO_bad (f := spN) hlt
        generalize ps.getD i [] = x at *
        obtain ⟨q, c, k⟩ := wParseSp_any x (by omega)
        cases hx : spN x with
        | some p =>
          have hpq := k p hx
          subst hpq
          have hz := hz _ hx
          rw [hx, Option.isSome_some] at c
          by_cases h0 : i = 0
          · have hl0 : qs = [] := List.eq_nil_of_length_eq_zero (by omega)
            subst hl0
            repeat' ((first | (refine kO 7 rfl ?_; first | refine rG (fun _ z => ⟨_, c, z⟩) ?_) | refine tG ?_ | exact True.intro | refine brp (fun h => ?_) fun h => ?_ | refine opsA_ifp rfl rfl rfl (fun h => ?_) fun h => ?_ | refine opsA_unlessp rfl rfl rfl (fun h => ?_) fun h => ?_) <;> (try conv => whnf))
            all_goals first | (exfalso; omega) | (exact absurd rfl h) | (exact ⟨(i + 1, [p]), ⟨⟨hlt, by dsimp only [List.length_cons, List.length_nil]; omega⟩, hz⟩, by dsimp only; omega, cA⟩)
          · have e1 : (qs ++ [p]).getD 0 z4 = qs.getD 0 z4 := by
              cases qs with
              | nil => simp at ha; omega
              | cons a b => rfl
            have e2 : ((qs ++ [p]).drop 1).map sp = (qs.drop 1).map sp ++ [sp p] := by
              cases qs with
              | nil => simp at ha; omega
              | cons a b => simp
            have hap : (qs ++ [p]).length = qs.length + 1 := by simp
            have hcl : ((qs.drop 1).map sp).length = qs.length - 1 := by simp
            have u := sp_uni (qs.drop 1) p
            generalize hC : (qs.drop 1).map sp = C at *
            generalize hQ : qs.getD 0 z4 = Q at *
            have hcl2 : (C ++ [sp p]).length = C.length + 1 := by simp
            repeat' ((first | (refine kO 7 rfl ?_; first | refine rG (fun _ z => ⟨_, c, z⟩) ?_) | refine tG ?_ | exact True.intro | refine brp (fun h => ?_) fun h => ?_ | refine opsA_ifp rfl rfl rfl (fun h => ?_) fun h => ?_ | refine opsA_unlessp rfl rfl rfl (fun h => ?_) fun h => ?_) <;> (try conv => whnf))
            all_goals first | (exfalso; omega) | (exact absurd rfl h) | (exact ⟨(i + 1, qs ++ [p]), ⟨⟨hlt, by dsimp only; omega⟩, hz⟩, by dsimp only; omega, canon_auto (by dsimp only; rw [e1, e2]; kernel_rfl)⟩)
        | none =>
          rw [hbd (hbad hx)]
          rw [hx, Option.isSome_none] at c
          repeat' ((first | (refine kO 7 rfl ?_; first | refine rG (fun _ z => ⟨_, c, z⟩) ?_) | refine tG ?_ | exact True.intro | refine brp (fun h => ?_) fun h => ?_ | refine opsA_ifp rfl rfl rfl (fun h => ?_) fun h => ?_ | refine opsA_unlessp rfl rfl rfl (fun h => ?_) fun h => ?_) <;> (try conv => whnf))
          all_goals first | (exact rfl) | (exfalso; omega)
      · obtain rfl : i = ps.length := by omega
        rw [List.take_length] at hg
        match qs, ha, hg with
        | [], ha, hg => exfalso; simp at ha; omega
        | q :: ch, ha, hg =>
          rw [hsm q ch hg]
          have hin := allO_all (P := SpI) (fun s x => spN_in) hg
          have c3 := checkRules_sat n q ch (hin q (by simp)) (fun s hs => hin s (by simp [hs])) (by simp at ha; omega)
          have e : endRul (some (n, q, ch)) = if rulesErr n q ch = 0 then ((n, q, ch), 0) else ((0, (0, 0, 0, 0), []), rulesErr n q ch) := rfl
          rw [e]
          generalize rulesErr n q ch = x at *
          by_cases hx : x = 0
          · rw [if_pos hx]
            repeat' ((first | (refine kO 7 rfl ?_; first | refine rG (fun _ z => ⟨_, c3, z⟩) ?_) | refine tG ?_ | exact True.intro | refine brp (fun h => ?_) fun h => ?_ | refine opsA_ifp rfl rfl rfl (fun h => ?_) fun h => ?_ | refine opsA_unlessp rfl rfl rfl (fun h => ?_) fun h => ?_) <;> (try conv => whnf))
            all_goals first | (exact rfl) | (exfalso; omega)
          · rw [if_neg hx]
            repeat' ((first | (refine kO 7 rfl ?_; first | refine rG (fun _ z => ⟨_, c3, z⟩) ?_) | refine tG ?_ | exact True.intro | refine brp (fun h => ?_) fun h => ?_ | refine opsA_ifp rfl rfl rfl (fun h => ?_) fun h => ?_ | refine opsA_unlessp rfl rfl rfl (fun h => ?_) fun h => ?_) <;> (try conv => whnf))
            all_goals first | (exact rfl) | (exfalso; omega)
end Go.Proofs.Tryz
namespace Go.Proofs.Tryz
open Go.Fw Go.IntWalk Go.Plain
set_option maxRecDepth 100000
set_option maxHeartbeats 8000000
theorem drop1_getD {ws : List (List UInt8)} {i : Nat} (h : 1 ≤ i) : (ws.drop 1).getD (i - 1) [] = ws.getD i [] := by
  simp only [List.getD_eq_getElem?_getD, List.getElem?_drop]
  rw [show 1 + (i - 1) = i by omega]
theorem refParseRules_sat (s : List UInt8) (hl : s.length ≤ 10000) : Sat cx.P cx.gl 117 [SS s] (.tup (PQ (endRul (rulPre (spl 59 s))))) := by
  obtain ⟨h3, h4⟩ := spl_len 59 s
  have h5 := spl_ne 59 s
  have c1 := cut_sat s 59 (by omega)
  rw [show (59 : UInt8).toNat = 59 from rfl, cutR_spl] at c1
  generalize spl 59 s = ws at *
  have hn := strs_len ws
  have h6 : 0 < ws.length := List.length_pos_iff.2 h5
  have he0 := strs_at h6
  have hw0 : (ws.getD 0 []).length ≤ 10000 := by
    have := h4 (ws.getD 0 []) (by rw [show ws.getD 0 [] = ws[0] by simp [List.getD_eq_getElem?_getD, h6]]; exact List.getElem_mem h6)
    omega
  obtain ⟨n, c0, k0⟩ := part_any (ws.getD 0 []) (by omega)
  cases hd : wN false 4 (ws.getD 0 []) with
  | none =>
    rw [hd, Option.isSome_none] at c0
    rw [rulPre_no hd]
    generalize ws.getD 0 [] = w at *
    refine sF f117 ?_
    repeat' ((first | (refine kO 7 rfl ?_; first | refine rG (fun _ z => ⟨_, c1, z⟩) ?_ | refine rG (fun _ z => ⟨_, c0, z⟩) ?_) | refine tG ?_ | exact True.intro | refine brp (fun h => ?_) fun h => ?_ | refine opsA_ifp rfl rfl rfl (fun h => ?_) fun h => ?_ | refine opsA_unlessp rfl rfl rfl (fun h => ?_) fun h => ?_) <;> (try conv => whnf))
    all_goals first | (exact rfl) | (exfalso; omega)
  | some n' =>
    have hnn := k0 _ hd
    subst hnn
    rw [hd, Option.isSome_some] at c0
    have hsm := fun q ch => rulPre_some (q := q) (ch := ch) hd
    generalize ws.getD 0 [] = w at *
    by_cases h7 : ws.length < 2
    · have e : allO spN (ws.drop 1) = some [] := by rw [List.drop_of_length_le (by omega)]; rfl
      rw [rulPre_nil e]
      refine sF f117 ?_
      repeat' ((first | (refine kO 7 rfl ?_; first | refine rG (fun _ z => ⟨_, c1, z⟩) ?_ | refine rG (fun _ z => ⟨_, c0, z⟩) ?_) | refine tG ?_ | exact True.intro | refine brp (fun h => ?_) fun h => ?_ | refine opsA_ifp rfl rfl rfl (fun h => ?_) fun h => ?_ | refine opsA_unlessp rfl rfl rfl (fun h => ?_) fun h => ?_) <;> (try conv => whnf))
      all_goals first | (exact rfl) | (exfalso; omega)
    · have hbd := rulPre_bad (ws := ws)
      have hpn : (ws.drop 1).length = ws.length - 1 := by simp
      have hgt := fun i => drop1_getD (ws := ws) (i := i)
      have hwl : ∀ w ∈ ws, w.length ≤ 10000 := fun w hw => by have := h4 w hw; omega
      generalize hpd : ws.drop 1 = ps at *
      refine sF f117 ?_
      repeat ((first | (refine kO 7 rfl ?_; first | refine rG (fun _ z => ⟨_, c1, z⟩) ?_ | refine rG (fun _ z => ⟨_, c0, z⟩) ?_) | refine tG ?_ | exact True.intro); (try conv => whnf))
      refine loop_ind (ι := Nat × List Sp) (fun p => (1 ≤ p.1 ∧ p.1 ≤ ws.length ∧ p.2.length = p.1 - 1) ∧ allO spN (ps.take (p.1 - 1)) = some p.2) (fun p => ws.length - p.1)
        (fun p => ⟨[(2, pP 0), (4, pO 1), (7, pP 2), (8, vI p.1)], [(0, some (.box 150 [.st (J 0), .st (J 0), .st (J 0), .st (J 0), .st (J 0), .nil])), (1, some (.row true 1 (.view (strs ws)))), (2, some (.box 150 [.st (J n), .st (J (p.2.getD 0 z4).1), .st (J (p.2.getD 0 z4).2.1), .st (J (p.2.getD 0 z4).2.2.1), .st (J (p.2.getD 0 z4).2.2.2), .own 3])), (3, some (.row true 4 (.view ((p.2.drop 1).map sp))))], 4⟩)
        (1, []) (by
          refine Sub.trans (nilb_sub 52 5 4 (.view []) (T := 150) (cs := [.st (J n), .st (J 0), .st (J 0), .st (J 0), .st (J 0), .nil]) (by decide) rfl rfl rfl rfl) ?_
          exact cA) ⟨⟨Nat.le_refl _, by dsimp only; omega, rfl⟩, rfl⟩ ?_
      rintro ⟨i, qs⟩ ⟨⟨hi0, hi, ha⟩, hg⟩
      dsimp only at hi0 hi ha hg ⊢
      by_cases hlt : i < ws.length
      · have he := strs_at hlt
        have hwl : (ws.getD i []).length ≤ 10000 := hwl _ (by rw [show ws.getD i [] = ws[i] by simp [List.getD_eq_getElem?_getD, hlt]]; exact List.getElem_mem hlt)
        have hz := fun n => allO_snoc (by omega) hg (n := n)
        have hbad := allO_bad (f := spN) (l := ps) (i := i - 1) (by omega)
        rw [show i - 1 + 1 = i + 1 - 1 by omega, hgt i hi0] at hz
        rw [hgt i hi0] at hbad
        generalize ws.getD i [] = x at *
        obtain ⟨q, c, k⟩ := refSp_any x (by omega)
        cases hx : spN x with
        | some p =>
          have hpq := k p hx
          subst hpq
          have hz := hz _ hx
          rw [hx, Option.isSome_some] at c
          by_cases h0 : i = 1
          · have hl0 : qs = [] := List.eq_nil_of_length_eq_zero (by omega)
            subst hl0
            repeat' ((first | (refine kO 7 rfl ?_; first | refine rG (fun _ z => ⟨_, c, z⟩) ?_) | refine tG ?_ | exact True.intro | refine brp (fun h => ?_) fun h => ?_ | refine opsA_ifp rfl rfl rfl (fun h => ?_) fun h => ?_ | refine opsA_unlessp rfl rfl rfl (fun h => ?_) fun h => ?_) <;> (try conv => whnf))
            all_goals first | (exfalso; omega) | (exact absurd rfl h) | (exact ⟨(i + 1, [p]), ⟨⟨by dsimp only; omega, hlt, by dsimp only [List.length_cons, List.length_nil]; omega⟩, hz⟩, by dsimp only; omega, cA⟩)
          · have e1 : (qs ++ [p]).getD 0 z4 = qs.getD 0 z4 := by
              cases qs with
              | nil => simp at ha; omega
              | cons a b => rfl
            have e2 : ((qs ++ [p]).drop 1).map sp = (qs.drop 1).map sp ++ [sp p] := by
              cases qs with
              | nil => simp at ha; omega
              | cons a b => simp
            have hap : (qs ++ [p]).length = qs.length + 1 := by simp
            have hcl : ((qs.drop 1).map sp).length = qs.length - 1 := by simp
            have u := sp_uni (qs.drop 1) p
            generalize hC : (qs.drop 1).map sp = C at *
            generalize hQ : qs.getD 0 z4 = Q at *
            have hcl2 : (C ++ [sp p]).length = C.length + 1 := by simp
            repeat' ((first | (refine kO 7 rfl ?_; first | refine rG (fun _ z => ⟨_, c, z⟩) ?_) | refine tG ?_ | exact True.intro | refine brp (fun h => ?_) fun h => ?_ | refine opsA_ifp rfl rfl rfl (fun h => ?_) fun h => ?_ | refine opsA_unlessp rfl rfl rfl (fun h => ?_) fun h => ?_) <;> (try conv => whnf))
            all_goals first | (exfalso; omega) | (exact absurd rfl h) | (exact ⟨(i + 1, qs ++ [p]), ⟨⟨by dsimp only; omega, hlt, by dsimp only; omega⟩, hz⟩, by dsimp only; omega, canon_auto (by dsimp only; rw [e1, e2]; kernel_rfl)⟩)
        | none =>
          rw [hbd (hbad hx)]
          rw [hx, Option.isSome_none] at c
          repeat' ((first | (refine kO 7 rfl ?_; first | refine rG (fun _ z => ⟨_, c, z⟩) ?_) | refine tG ?_ | exact True.intro | refine brp (fun h => ?_) fun h => ?_ | refine opsA_ifp rfl rfl rfl (fun h => ?_) fun h => ?_ | refine opsA_unlessp rfl rfl rfl (fun h => ?_) fun h => ?_) <;> (try conv => whnf))
          all_goals first | (exact rfl) | (exfalso; omega)
      · obtain rfl : i = ws.length := by omega
        rw [List.take_of_length_le (by omega)] at hg
        match qs, ha, hg with
        | [], ha, hg => exfalso; simp at ha; omega
        | q :: ch, ha, hg =>
          rw [hsm q ch hg]
          have hin := allO_all (P := SpI) (fun s x => spN_in) hg
          have c3 := refRulesErr_sat n q ch (hin q (by simp)) (fun s hs => hin s (by simp [hs]))
          have e : endRul (some (n, q, ch)) = if rulesErr n q ch = 0 then ((n, q, ch), 0) else ((0, (0, 0, 0, 0), []), rulesErr n q ch) := rfl
          rw [e]
          generalize rulesErr n q ch = x at *
          by_cases hx : x = 0
          · rw [if_pos hx]
            repeat' ((first | (refine kO 7 rfl ?_; first | refine rG (fun _ z => ⟨_, c3, z⟩) ?_) | refine tG ?_ | exact True.intro | refine brp (fun h => ?_) fun h => ?_ | refine opsA_ifp rfl rfl rfl (fun h => ?_) fun h => ?_ | refine opsA_unlessp rfl rfl rfl (fun h => ?_) fun h => ?_) <;> (try conv => whnf))
            all_goals first | (exact rfl) | (exfalso; omega)
          · rw [if_neg hx]
            repeat' ((first | (refine kO 7 rfl ?_; first | refine rG (fun _ z => ⟨_, c3, z⟩) ?_) | refine tG ?_ | exact True.intro | refine brp (fun h => ?_) fun h => ?_ | refine opsA_ifp rfl rfl rfl (fun h => ?_) fun h => ?_ | refine opsA_unlessp rfl rfl rfl (fun h => ?_) fun h => ?_) <;> (try conv => whnf))
            all_goals first | (exact rfl) | (exfalso; omega)
end Go.Proofs.Tryz
