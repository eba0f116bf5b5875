/- Parts of the proof, joined. -/

import Derived.Test.YtnbfdfmphbehoaaGreatDoorWa
import Derived.Test.YtnbfdfmphbehoaaGreatDoorFe
import Derived.Test.YtnbfdfmphbehoaaGreatDoorM
import Derived.Test.YtnbfdfmphbehoaaGreatDoorVa
namespace Go.Proofs.Tryz
open Go.Fw Go.IntWalk Go.Plain
set_option maxRecDepth 100000
set_option maxHeartbeats 8000000
theorem gl_pow : (6, Lib.pow10Tab.map fun z => SC.lit (.int .u64 z)) ∈ cx.gl := List.mem_of_getElem? (i := 4) (by kernel_rfl)
theorem gl_max : (0, [SC.num .i64]) ∈ cx.gl := List.mem_of_getElem? (i := 0) (by kernel_rfl)
theorem gl_syn : (1, [SC.err]) ∈ cx.gl := List.mem_of_getElem? (i := 1) (by kernel_rfl)
theorem gl_rng : (2, [SC.err]) ∈ cx.gl := List.mem_of_getElem? (i := 2) (by kernel_rfl)
theorem itoa_sat (n : Int) (h : inI n) : Sat cx.P cx.gl 139 [I n] (.one (SS (Lib.itoa n))) := itoa_gen laysM171 (by kernel_rfl) (g := 6) (by kernel_rfl) gl_pow n h
theorem atoi_sat (s : List UInt8) (hl : s.length ≤ 1000000) {v : Int} (h : Lib.atoiAll s = .ok v) : Sat cx.P cx.gl 138 [SS s] (.tup [I v, (false, [.lit .nilIface])]) := atoi_ok laysC172 (by kernel_rfl) s hl h
theorem atoiBad_sat (s : List UInt8) (hl : s.length ≤ 1000000) (h : ∀ v, Lib.atoiAll s ≠ .ok v) : ∃ v, Sat cx.P cx.gl 138 [SS s] (.tup [I v, (false, [.err])]) := atoi_bad laysC172 (by kernel_rfl) gl_syn gl_rng s hl h
theorem cut2_sat (s : List UInt8) (c : UInt8) (hl : s.length ≤ 1000000) : Sat cx.P cx.gl 120 [SS s, SS [c]] (.tup [SS (Lib.cut s [c]).1, SS (Lib.cut s [c]).2.1, Bo (Lib.cut s [c]).2.2]) := cut_gen lays145 (by kernel_rfl) gl_max s c hl
theorem trimPrefix_sat (s p : List UInt8) : Sat cx.P cx.gl 140 [SS s, SS p] (.one (SS (Lib.trimPrefix s p))) := trimPrefix_gen lays101 (by kernel_rfl) s p
theorem split_sat (s : List UInt8) (c : UInt8) (hl : s.length ≤ 1000000) (hlen : (cutS s c).length = Lib.countB (B s) (B [c]) + 1) : Sat cx.P cx.gl 112 [SS s, SS [c]] (.own 1 (.view (strs (cutS s c)))) := split_gen lays146 (by kernel_rfl) (by kernel_rfl) gl_max s c hl hlen
end Go.Proofs.Tryz
namespace Go.Proofs.Tryz
open Go.Fw Go.IntWalk Go.Plain
set_option maxRecDepth 100000
set_option maxHeartbeats 8000000
end Go.Proofs.Tryz
namespace Go.Proofs.Tryz
open Go.Fw Go.IntWalk Go.Plain
set_option maxRecDepth 100000
set_option maxHeartbeats 8000000
def numR (o : Option Int) : List SV := match o with
  | some n => [I n, Bo true]
  | none => [I 0, Bo false]
theorem number_sat (s : List UInt8) (d : Nat) (hd : d ≤ 18) (hl : s.length ≤ 1000000) : Sat cx.P cx.gl 192 [SS s, I d] (.tup (numR (numN d s))) := by
  have hle := atN_le s
  by_cases h45 : (s.getD 0 0).toNat = 45
  · have ea : atN s = 1 := by unfold atN; rw [if_pos h45]
    rw [ea] at hle
    unfold numN
    by_cases hb0 : badN d s
    · have hb : s.length = 1 ∨ d < s.length - 1 ∨ ((s.getD 1 0).toNat = 48 ∧ 1 < s.length) := by unfold badN at hb0; rw [ea] at hb0; exact hb0
      rw [if_pos hb0]
      unfold numR
      refine sF f192 ?_
      repeat' ((first | refine tG ?_ | exact True.intro | refine brp (fun h => ?_) fun h => ?_ | refine opsA_ifp rfl rfl rfl (fun h => ?_) fun h => ?_ | refine opsA_unlessp rfl rfl rfl (fun h => ?_) fun h => ?_) <;> (try conv => whnf))
      all_goals first | (exact rfl) | (exfalso; omega)
    · have hb : ¬ (s.length = 1 ∨ d < s.length - 1 ∨ ((s.getD 1 0).toNat = 48 ∧ 1 < s.length)) := by unfold badN at hb0; rw [ea] at hb0; exact hb0
      rw [if_neg hb0, ea]
      have hz : ¬ (s.getD 1 0).toNat = 48 := by omega
      all_goals
       refine sF f192 ?_
       (try (refine tG ?_; try exact True.intro))
       refine loop_ind (ι := Nat) (fun i => (1 ≤ i ∧ i ≤ s.length) ∧ ∀ b ∈ (s.take i).drop 1, isDig b) (fun i => s.length - i) (fun i => ⟨[(0, lS s), (6, vI 1), (7, vI (digV 0 ((s.take i).drop 1) : Nat)), (8, vI i)], [], 0⟩) 1 (canon_auto (by rw [show (s.take 1).drop 1 = [] by simp]; kernel_rfl)) ⟨⟨Nat.le_refl _, hle⟩, by rw [show (s.take 1).drop 1 = [] by simp]; simp⟩ ?_
       rintro i ⟨⟨hi0, hi⟩, hdg⟩
       have hsm := digV_small hdg (by simp; omega)
       have hby : (s.getD i 0).toNat ≤ 255 := by have := (s.getD i 0).toNat_lt; omega
       by_cases hlt : i < s.length
       · by_cases hx : isDig (s.getD i 0)
         · have hsm7 := digV_small7 hdg (by simp; omega)
           have hv := digV_cut hi0 hlt hx
           have hdg' : ∀ b ∈ (s.take (i + 1)).drop 1, isDig b := by
             rw [cut_succ hi0 hlt]
             intro b hb'
             rcases List.mem_append.1 hb' with hb' | hb'
             · exact hdg b hb'
             · rw [List.mem_singleton] at hb'; subst hb'; exact hx
           unfold isDig at hx
           generalize digV 0 ((s.take i).drop 1) = v at *
           (try (refine tG ?_; try exact True.intro))
           exact ⟨i + 1, ⟨⟨by omega, hlt⟩, hdg'⟩, by omega, canon_auto (by rw [hv]; kernel_rfl)⟩
         · have hno : ¬ ∀ b ∈ s.drop 1, isDig b := fun h => hx (h _ (by
             have e : s.getD i 0 = (s.drop 1).getD (i - 1) 0 := by
               simp only [List.getD_eq_getElem?_getD, List.getElem?_drop]
               rw [show 1 + (i - 1) = i by omega]
             rw [e]
             have : i - 1 < (s.drop 1).length := by simp; omega
             rw [List.getD_eq_getElem?_getD, List.getElem?_eq_getElem this]
             exact List.getElem_mem this))
           rw [if_neg hno]
           unfold isDig at hx
           generalize digV 0 ((s.take i).drop 1) = v at *
           repeat' ((first | refine tG ?_ | exact True.intro | refine brp (fun h => ?_) fun h => ?_ | refine opsA_ifp rfl rfl rfl (fun h => ?_) fun h => ?_ | refine opsA_unlessp rfl rfl rfl (fun h => ?_) fun h => ?_) <;> (try conv => whnf))
           all_goals first | (exact rfl) | (exfalso; omega)
       · obtain rfl : i = s.length := by omega
         rw [List.take_length] at hdg hsm ⊢
         rw [if_pos hdg]
         generalize digV 0 (s.drop 1) = v at *
         (try (refine tG ?_; try exact True.intro))
         (first | done | rfl | exact True.intro)
  · have ea : atN s = 0 := by unfold atN; rw [if_neg h45]
    rw [ea] at hle
    unfold numN
    by_cases hb0 : badN d s
    · have hb : s.length = 0 ∨ d < s.length - 0 ∨ ((s.getD 0 0).toNat = 48 ∧ 1 < s.length) := by unfold badN at hb0; rw [ea] at hb0; exact hb0
      rw [if_pos hb0]
      unfold numR
      refine sF f192 ?_
      repeat' ((first | refine tG ?_ | exact True.intro | refine brp (fun h => ?_) fun h => ?_ | refine opsA_ifp rfl rfl rfl (fun h => ?_) fun h => ?_ | refine opsA_unlessp rfl rfl rfl (fun h => ?_) fun h => ?_) <;> (try conv => whnf))
      all_goals first | (exact rfl) | (exfalso; omega)
    · have hb : ¬ (s.length = 0 ∨ d < s.length - 0 ∨ ((s.getD 0 0).toNat = 48 ∧ 1 < s.length)) := by unfold badN at hb0; rw [ea] at hb0; exact hb0
      rw [if_neg hb0, ea]
      rcases Classical.em ((s.getD 0 0).toNat = 48) with hz | hz
      all_goals
       refine sF f192 ?_
       (try (refine tG ?_; try exact True.intro))
       refine loop_ind (ι := Nat) (fun i => (0 ≤ i ∧ i ≤ s.length) ∧ ∀ b ∈ (s.take i).drop 0, isDig b) (fun i => s.length - i) (fun i => ⟨[(0, lS s), (6, vI 0), (7, vI (digV 0 ((s.take i).drop 0) : Nat)), (8, vI i)], [], 0⟩) 0 (canon_auto (by rw [show (s.take 0).drop 0 = [] by simp]; kernel_rfl)) ⟨⟨Nat.le_refl _, hle⟩, by rw [show (s.take 0).drop 0 = [] by simp]; simp⟩ ?_
       rintro i ⟨⟨hi0, hi⟩, hdg⟩
       have hsm := digV_small hdg (by simp; omega)
       have hby : (s.getD i 0).toNat ≤ 255 := by have := (s.getD i 0).toNat_lt; omega
       by_cases hlt : i < s.length
       · by_cases hx : isDig (s.getD i 0)
         · have hsm7 := digV_small7 hdg (by simp; omega)
           have hv := digV_cut hi0 hlt hx
           have hdg' : ∀ b ∈ (s.take (i + 1)).drop 0, isDig b := by
             rw [cut_succ hi0 hlt]
             intro b hb'
             rcases List.mem_append.1 hb' with hb' | hb'
             · exact hdg b hb'
             · rw [List.mem_singleton] at hb'; subst hb'; exact hx
           unfold isDig at hx
           generalize digV 0 ((s.take i).drop 0) = v at *
           (try (refine tG ?_; try exact True.intro))
           exact ⟨i + 1, ⟨⟨by omega, hlt⟩, hdg'⟩, by omega, canon_auto (by rw [hv]; kernel_rfl)⟩
         · have hno : ¬ ∀ b ∈ s.drop 0, isDig b := fun h => hx (h _ (by
             have e : s.getD i 0 = (s.drop 0).getD (i - 0) 0 := by
               simp only [List.getD_eq_getElem?_getD, List.getElem?_drop]
               rw [show 0 + (i - 0) = i by omega]
             rw [e]
             have : i - 0 < (s.drop 0).length := by simp; omega
             rw [List.getD_eq_getElem?_getD, List.getElem?_eq_getElem this]
             exact List.getElem_mem this))
           rw [if_neg hno]
           unfold isDig at hx
           generalize digV 0 ((s.take i).drop 0) = v at *
           repeat' ((first | refine tG ?_ | exact True.intro | refine brp (fun h => ?_) fun h => ?_ | refine opsA_ifp rfl rfl rfl (fun h => ?_) fun h => ?_ | refine opsA_unlessp rfl rfl rfl (fun h => ?_) fun h => ?_) <;> (try conv => whnf))
           all_goals first | (exact rfl) | (exfalso; omega)
       · obtain rfl : i = s.length := by omega
         rw [List.take_length] at hdg hsm ⊢
         rw [if_pos hdg]
         generalize digV 0 (s.drop 0) = v at *
         (try (refine tG ?_; try exact True.intro))
         (first | done | rfl | exact True.intro)
end Go.Proofs.Tryz
namespace Go.Proofs.Tryz
open Go.Fw Go.IntWalk Go.Plain
set_option maxRecDepth 100000
set_option maxHeartbeats 8000000
theorem strs_snoc (l : List (List UInt8)) (x : List UInt8) : strs (l ++ [x]) = strs l ++ [[.lit (.string (B x))]] := by simp
theorem strs_len (l : List (List UInt8)) : (strs l).length = l.length := by simp
theorem strs_uni (l : List (List UInt8)) (x : List UInt8) : (SC.view (strs l ++ [[.lit (.string (B x))]])).uni 1 := by
  intro e he
  rcases List.mem_append.1 he with he | he
  · obtain ⟨w, _, rfl⟩ := List.mem_map.1 he
    rfl
  · rw [List.mem_singleton] at he; subst he; rfl
theorem cut_sat (s : List UInt8) (c : UInt8) (hl : s.length ≤ 1000000) : Sat cx.P cx.gl 147 [SS s, (false, [.lit (.int .u8 (c.toNat : Nat))])] (.own 1 (.view (strs (cutR s c.toNat)))) := by
  refine sF f147 ?_
  (try (refine tG ?_; try exact True.intro))
  refine loop_ind (ι := Nat) (fun i => i ≤ s.length) (fun i => s.length - i) (fun i => ⟨[(0, lS s), (1, some (lit (.int .u8 (c.toNat : Nat)))), (5, pO 0), (6, vI (cutP s c.toNat i).2), (7, vI i)], [(0, some (.row true 1 (.view (strs (cutP s c.toNat i).1))))], 1⟩) 0 (Sub.trans (nil_sub 5 1 (.view []) (by decide) rfl rfl rfl) cA) (Nat.zero_le _) ?_
  intro i hi
  obtain ⟨h1, h2⟩ := cutP_le s c.toNat i
  have h3 := strs_len (cutP s c.toNat i).1
  by_cases hlt : i < s.length
  · by_cases hx : (s.getD i 0).toNat = c.toNat
    · have e : cutP s c.toNat (i + 1) = ((cutP s c.toNat i).1 ++ [(s.take i).drop (cutP s c.toNat i).2], i + 1) := by
        show (if (s.getD i 0).toNat = c.toNat then _ else _) = _
        rw [if_pos hx]
      have e2 := strs_snoc (cutP s c.toNat i).1 ((s.take i).drop (cutP s c.toNat i).2)
      have u := strs_uni (cutP s c.toNat i).1 ((s.take i).drop (cutP s c.toNat i).2)
      generalize cutP s c.toNat i = P at *
      (try (refine tG ?_; try exact True.intro))
      exact ⟨i + 1, hlt, by omega, canon_auto (by rw [e]; dsimp only; rw [e2]; kernel_rfl)⟩
    · have e : cutP s c.toNat (i + 1) = cutP s c.toNat i := by
        show (if (s.getD i 0).toNat = c.toNat then _ else _) = _
        rw [if_neg hx]
      generalize cutP s c.toNat i = P at *
      (try (refine tG ?_; try exact True.intro))
      exact ⟨i + 1, hlt, by omega, canon_auto (by rw [e]; kernel_rfl)⟩
  · obtain rfl : i = s.length := by omega
    unfold cutR
    have e2 := strs_snoc (cutP s c.toNat s.length).1 (s.drop (cutP s c.toNat s.length).2)
    have u := strs_uni (cutP s c.toNat s.length).1 (s.drop (cutP s c.toNat s.length).2)
    rw [e2]
    generalize cutP s c.toNat s.length = P at *
    (try (refine tG ?_; try exact True.intro))
    (first | done | rfl | exact True.intro)
end Go.Proofs.Tryz
namespace Go.Proofs.Tryz
open Go.Fw Go.IntWalk Go.Plain
set_option maxRecDepth 100000
set_option maxHeartbeats 8000000
theorem tupB {x : SV} {b c : Bool} (h : b = c) : Res.tup [x, Bo b] = Res.tup [x, Bo c] := by rw [h]
theorem wNumber_ok {sg : Bool} {s : List UInt8} {d : Nat} (hd : d ≤ 18) (hl : s.length ≤ 1000000) {n : Int} (h : wN sg d s = some n) : Sat cx.P cx.gl 113 [SS s, I d, Bo sg] (.tup [I n, Bo true]) := by
  obtain ⟨h0, h9⟩ := wN_some h
  obtain ⟨h1, h2, h3, h4⟩ := numN_some hd h0
  have c1 := atoi_sat s hl h1
  have c2 := itoa_sat n h4
  rw [h2] at c2
  have c3 := trimPrefix_sat s [45]
  generalize Lib.trimPrefix s [45] = u at *
  cases sg with
  | true =>
    refine sF f113 ?_
    repeat' ((first | (refine kO 7 rfl ?_; first | refine rG (fun _ z => ⟨_, c1, z⟩) ?_ | refine rG (fun _ z => ⟨_, c2, z⟩) ?_ | refine rG (fun _ z => ⟨_, c3, z⟩) ?_) | refine tG ?_ | exact True.intro | refine brp (fun h => ?_) fun h => ?_ | refine opsA_ifp rfl rfl rfl (fun h => ?_) fun h => ?_ | refine opsA_unlessp rfl rfl rfl (fun h => ?_) fun h => ?_) <;> (try conv => whnf))
    all_goals first | (exact rfl) | (exfalso; omega) | (exact absurd rfl (by assumption)) | (exact tupB (decide_eq_true (by omega))) | (exact tupB (decide_eq_false (by omega)))
  | false =>
    have h8 : 0 ≤ n := by simpa using h9
    refine sF f113 ?_
    repeat' ((first | (refine kO 7 rfl ?_; first | refine rG (fun _ z => ⟨_, c1, z⟩) ?_ | refine rG (fun _ z => ⟨_, c2, z⟩) ?_ | refine rG (fun _ z => ⟨_, c3, z⟩) ?_) | refine tG ?_ | exact True.intro | refine brp (fun h => ?_) fun h => ?_ | refine opsA_ifp rfl rfl rfl (fun h => ?_) fun h => ?_ | refine opsA_unlessp rfl rfl rfl (fun h => ?_) fun h => ?_) <;> (try conv => whnf))
    all_goals first | (exact rfl) | (exfalso; omega) | (exact absurd rfl (by assumption)) | (exact tupB (decide_eq_true (by omega))) | (exact tupB (decide_eq_false (by omega)))
theorem wNumber_no {sg : Bool} {s : List UInt8} {d : Nat} (hl : s.length ≤ 1000000) (hn : wN sg d s = none) : ∃ v, Sat cx.P cx.gl 113 [SS s, I d, Bo sg] (.tup [I v, Bo false]) := by
  by_cases hok : ∀ v, Lib.atoiAll s ≠ .ok v
  · obtain ⟨v, c1⟩ := atoiBad_sat s hl hok
    refine ⟨v, ?_⟩
    cases sg
    · refine sF f113 ?_
      repeat' ((first | (refine kO 7 rfl ?_; first | refine rG (fun _ z => ⟨_, c1, z⟩) ?_) | refine tG ?_ | exact True.intro | refine brp (fun h => ?_) fun h => ?_ | refine opsA_ifp rfl rfl rfl (fun h => ?_) fun h => ?_ | refine opsA_unlessp rfl rfl rfl (fun h => ?_) fun h => ?_) <;> (try conv => whnf))
      all_goals exact rfl
    · refine sF f113 ?_
      repeat' ((first | (refine kO 7 rfl ?_; first | refine rG (fun _ z => ⟨_, c1, z⟩) ?_) | refine tG ?_ | exact True.intro | refine brp (fun h => ?_) fun h => ?_ | refine opsA_ifp rfl rfl rfl (fun h => ?_) fun h => ?_ | refine opsA_unlessp rfl rfl rfl (fun h => ?_) fun h => ?_) <;> (try conv => whnf))
      all_goals exact rfl
  · simp only [ne_eq, Classical.not_forall, Classical.not_not] at hok
    obtain ⟨v, hv⟩ := hok
    refine ⟨v, ?_⟩
    have h4 := Lib.atoiAll_bounds hv
    have c1 := atoi_sat s hl hv
    have c2 := itoa_sat v h4
    have c3 := trimPrefix_sat s [45]
    have key : ¬ (Lib.itoa v = s ∧ (sg = true ∨ 0 ≤ v) ∧ (Lib.trimPrefix s [45]).length ≤ d) := by
      rintro ⟨h5, h6, h7⟩
      have := numN_back (d := d) (n := v) (by rw [h5]; exact h7)
      rw [h5] at this
      unfold wN at hn
      rw [this] at hn
      have hn' : (if sg = true ∨ 0 ≤ v then some v else none) = none := hn
      rw [if_pos h6] at hn'
      cases hn'
    generalize Lib.trimPrefix s [45] = u at *
    by_cases hp : Lib.itoa v = s
    · rw [hp] at c2
      have key2 : ¬ ((sg = true ∨ 0 ≤ v) ∧ u.length ≤ d) := fun h => key ⟨hp, h⟩
      clear key
      cases sg with
      | true =>
        have k3 : ¬ u.length ≤ d := fun h => key2 ⟨.inl rfl, h⟩
        refine sF f113 ?_
        repeat' ((first | (refine kO 7 rfl ?_; first | refine rG (fun _ z => ⟨_, c1, z⟩) ?_ | refine rG (fun _ z => ⟨_, c2, z⟩) ?_ | refine rG (fun _ z => ⟨_, c3, z⟩) ?_) | refine tG ?_ | exact True.intro | refine brp (fun h => ?_) fun h => ?_ | refine opsA_ifp rfl rfl rfl (fun h => ?_) fun h => ?_ | refine opsA_unlessp rfl rfl rfl (fun h => ?_) fun h => ?_) <;> (try conv => whnf))
        all_goals first | (exact rfl) | (exfalso; omega) | (exact absurd rfl (by assumption)) | (exact tupB (decide_eq_true (by omega))) | (exact tupB (decide_eq_false (by omega)))
      | false =>
        have k3 : ¬ (0 ≤ v ∧ u.length ≤ d) := fun h => key2 ⟨.inr h.1, h.2⟩
        refine sF f113 ?_
        repeat' ((first | (refine kO 7 rfl ?_; first | refine rG (fun _ z => ⟨_, c1, z⟩) ?_ | refine rG (fun _ z => ⟨_, c2, z⟩) ?_ | refine rG (fun _ z => ⟨_, c3, z⟩) ?_) | refine tG ?_ | exact True.intro | refine brp (fun h => ?_) fun h => ?_ | refine opsA_ifp rfl rfl rfl (fun h => ?_) fun h => ?_ | refine opsA_unlessp rfl rfl rfl (fun h => ?_) fun h => ?_) <;> (try conv => whnf))
        all_goals first | (exact rfl) | (exfalso; omega) | (exact absurd rfl (by assumption)) | (exact tupB (decide_eq_true (by omega))) | (exact tupB (decide_eq_false (by omega)))
    · clear key
      generalize Lib.itoa v = y at *
      cases sg
      · refine sF f113 ?_
        repeat' ((first | (refine kO 7 rfl ?_; first | refine rG (fun _ z => ⟨_, c1, z⟩) ?_ | refine rG (fun _ z => ⟨_, c2, z⟩) ?_ | refine rG (fun _ z => ⟨_, c3, z⟩) ?_) | refine tG ?_ | exact True.intro | refine brp (fun h => ?_) fun h => ?_ | refine opsA_ifp rfl rfl rfl (fun h => ?_) fun h => ?_ | refine opsA_unlessp rfl rfl rfl (fun h => ?_) fun h => ?_) <;> (try conv => whnf))
        all_goals first | (exact rfl) | (exact absurd h hp) | (exfalso; omega) | (exact absurd rfl (by assumption)) | (exact tupB (decide_eq_true (by omega))) | (exact tupB (decide_eq_false (by omega)))
      · refine sF f113 ?_
        repeat' ((first | (refine kO 7 rfl ?_; first | refine rG (fun _ z => ⟨_, c1, z⟩) ?_ | refine rG (fun _ z => ⟨_, c2, z⟩) ?_ | refine rG (fun _ z => ⟨_, c3, z⟩) ?_) | refine tG ?_ | exact True.intro | refine brp (fun h => ?_) fun h => ?_ | refine opsA_ifp rfl rfl rfl (fun h => ?_) fun h => ?_ | refine opsA_unlessp rfl rfl rfl (fun h => ?_) fun h => ?_) <;> (try conv => whnf))
        all_goals first | (exact rfl) | (exact absurd h hp) | (exfalso; omega) | (exact absurd rfl (by assumption)) | (exact tupB (decide_eq_true (by omega))) | (exact tupB (decide_eq_false (by omega)))
end Go.Proofs.Tryz
namespace Go.Proofs.Tryz
open Go.Fw Go.IntWalk Go.Plain
set_option maxRecDepth 100000
set_option maxHeartbeats 8000000
abbrev Fn (f : Nat) : SV := (false, [.fn f [] []])
theorem parseFr1_ok {s : List UInt8} (hl : s.length ≤ 1000000) {n : Int} (h : wN false 4 s = some n) : Sat cx.P cx.gl 187 [SS s] (.tup [I n, Bo true]) := by
  have c := wNumber_ok (d := 4) (by decide) hl h
  refine sF f187 ?_
  repeat ((first | (refine kO 7 rfl ?_; first | refine rG (fun _ z => ⟨_, c, z⟩) ?_) | refine tG ?_ | exact True.intro); (try conv => whnf))
  (first | done | rfl | exact True.intro)
theorem parseFr1_no {s : List UInt8} (hl : s.length ≤ 1000000) (h : wN false 4 s = none) : ∃ v, Sat cx.P cx.gl 187 [SS s] (.tup [I v, Bo false]) := by
  obtain ⟨v, c⟩ := wNumber_no (d := 4) hl h
  refine ⟨v, ?_⟩
  refine sF f187 ?_
  repeat ((first | (refine kO 7 rfl ?_; first | refine rG (fun _ z => ⟨_, c, z⟩) ?_) | refine tG ?_ | exact True.intro); (try conv => whnf))
  (first | done | rfl | exact True.intro)
theorem parseFr1_any {s : List UInt8} (hl : s.length ≤ 1000000) : ∃ v, Sat cx.P cx.gl 187 [SS s] (.tup [I v, Bo (wN false 4 s).isSome]) ∧ ∀ n, wN false 4 s = some n → v = n := by
  cases h : wN false 4 s with
  | some n => exact ⟨n, parseFr1_ok hl h, fun m hm => by simpa using hm⟩
  | none =>
    obtain ⟨v, c⟩ := parseFr1_no hl h
    exact ⟨v, c, fun m hm => by cases hm⟩
theorem two_any (s : List UInt8) (hl : s.length ≤ 1000000) : ∃ v u, Sat cx.P cx.gl 186 [SS s, SS [47], Fn 187] (.tup [I v, I u, Bo (frN s).isSome]) ∧ ∀ p, frN s = some p → p = (v, u) := by
  rcases cut_spl s 47 with ⟨h1, h2⟩ | ⟨a, b, h1, h2, h3, h4⟩
  · have c1 := cut2_sat s 47 hl
    rw [h1] at c1
    obtain ⟨v, c2, _⟩ := parseFr1_any hl
    obtain ⟨u, c3, _⟩ := parseFr1_any (s := []) (by simp)
    have e : frN s = none := twoN_no h2
    rw [e]
    refine ⟨v, u, ?_, fun p hp => by cases hp⟩
    show Sat _ _ _ _ (.tup [I v, I u, Bo false])
    generalize (wN false 4 s).isSome = x at *
    generalize (wN false 4 []).isSome = y at *
    refine sF f186 ?_
    repeat' ((first | (refine kO 7 rfl ?_; first | refine rG (fun _ z => ⟨_, c1, z⟩) ?_ | refine rG (fun _ z => ⟨_, c2, z⟩) ?_ | refine rG (fun _ z => ⟨_, c3, z⟩) ?_) | refine tG ?_ | exact True.intro | refine brp (fun h => ?_) fun h => ?_ | refine opsA_ifp rfl rfl rfl (fun h => ?_) fun h => ?_ | refine opsA_unlessp rfl rfl rfl (fun h => ?_) fun h => ?_) <;> (try conv => whnf))
    all_goals first | (exact rfl) | trace_state
  · have c1 := cut2_sat s 47 hl
    rw [h1] at c1
    obtain ⟨v, c2, k2⟩ := parseFr1_any (s := a) (by omega)
    obtain ⟨u, c3, k3⟩ := parseFr1_any (s := b) (by omega)
    have e : frN s = (wN false 4 a).bind fun x => (wN false 4 b).map fun y => (x, y) := by
      unfold frN
      exact twoN_at (c := 47) (fun s => part_no (.inl rfl)) h2
    rw [e]
    refine ⟨v, u, ?_, fun p hp => ?_⟩
    · rw [bind2.1]
      clear e k2 k3
      generalize (wN false 4 a).isSome = x at *
      generalize (wN false 4 b).isSome = y at *
      refine sF f186 ?_
      repeat' ((first | (refine kO 7 rfl ?_; first | refine rG (fun _ z => ⟨_, c1, z⟩) ?_ | refine rG (fun _ z => ⟨_, c2, z⟩) ?_ | refine rG (fun _ z => ⟨_, c3, z⟩) ?_) | refine tG ?_ | exact True.intro | refine brp (fun h => ?_) fun h => ?_ | refine opsA_ifp rfl rfl rfl (fun h => ?_) fun h => ?_ | refine opsA_unlessp rfl rfl rfl (fun h => ?_) fun h => ?_) <;> (try conv => whnf))
      all_goals first | (exact rfl) | (cases x <;> first | (exact rfl) | (exact absurd rfl h) | (cases h))
    · obtain ⟨h5, h6⟩ := bind2.2 p hp
      rw [k2 _ h5, k3 _ h6]
theorem wParseFr_any (s : List UInt8) (hl : s.length ≤ 1000000) : ∃ v u, Sat cx.P cx.gl 142 [SS s] (.tup [F2 v u, Bo (frN s).isSome]) ∧ ∀ p, frN s = some p → p = (v, u) := by
  obtain ⟨v, u, c, k⟩ := two_any s hl
  refine ⟨v, u, ?_, k⟩
  generalize (frN s).isSome = x at *
  refine sF f142 ?_
  repeat ((first | (refine kO 7 rfl ?_; first | refine rG (fun _ z => ⟨_, c, z⟩) ?_) | refine tG ?_ | exact True.intro); (try conv => whnf))
  (first | done | rfl | exact True.intro)
theorem two2_any (s : List UInt8) (hl : s.length ≤ 1000000) : ∃ v u v' u', Sat cx.P cx.gl 141 [SS s, SS [32], Fn 142] (.tup [F2 v u, F2 v' u', Bo (spN s).isSome]) ∧ ∀ p, spN s = some p → p = (v, u, v', u') := by
  rcases cut_spl s 32 with ⟨h1, h2⟩ | ⟨a, b, h1, h2, h3, h4⟩
  · have c1 := cut2_sat s 32 hl
    rw [h1] at c1
    obtain ⟨v, u, c2, _⟩ := wParseFr_any s hl
    obtain ⟨v', u', c3, _⟩ := wParseFr_any [] (by simp)
    have e : spN s = none := by unfold spN; rw [twoN_no h2]; rfl
    rw [e]
    refine ⟨v, u, v', u', ?_, fun p hp => by cases hp⟩
    show Sat _ _ _ _ (.tup [F2 v u, F2 v' u', Bo false])
    generalize (frN s).isSome = x at *
    generalize (frN []).isSome = y at *
    refine sF f141 ?_
    repeat' ((first | (refine kO 7 rfl ?_; first | refine rG (fun _ z => ⟨_, c1, z⟩) ?_ | refine rG (fun _ z => ⟨_, c2, z⟩) ?_ | refine rG (fun _ z => ⟨_, c3, z⟩) ?_) | refine tG ?_ | exact True.intro | refine brp (fun h => ?_) fun h => ?_ | refine opsA_ifp rfl rfl rfl (fun h => ?_) fun h => ?_ | refine opsA_unlessp rfl rfl rfl (fun h => ?_) fun h => ?_) <;> (try conv => whnf))
    all_goals first | (exact rfl) | trace_state
  · have c1 := cut2_sat s 32 hl
    rw [h1] at c1
    obtain ⟨v, u, c2, k2⟩ := wParseFr_any a (by omega)
    obtain ⟨v', u', c3, k3⟩ := wParseFr_any b (by omega)
    have e : spN s = ((frN a).bind fun x => (frN b).map fun y => (x, y)).map fun p => (p.1.1, p.1.2, p.2.1, p.2.2) := by
      unfold spN
      rw [twoN_at (c := 32) (fun s => fr_no) h2]
    rw [e]
    refine ⟨v, u, v', u', ?_, fun p hp => ?_⟩
    · rw [Option.isSome_map, bind2.1]
      clear e k2 k3
      generalize (frN a).isSome = x at *
      generalize (frN b).isSome = y at *
      refine sF f141 ?_
      repeat' ((first | (refine kO 7 rfl ?_; first | refine rG (fun _ z => ⟨_, c1, z⟩) ?_ | refine rG (fun _ z => ⟨_, c2, z⟩) ?_ | refine rG (fun _ z => ⟨_, c3, z⟩) ?_) | refine tG ?_ | exact True.intro | refine brp (fun h => ?_) fun h => ?_ | refine opsA_ifp rfl rfl rfl (fun h => ?_) fun h => ?_ | refine opsA_unlessp rfl rfl rfl (fun h => ?_) fun h => ?_) <;> (try conv => whnf))
      all_goals first | (exact rfl) | (cases x <;> first | (exact rfl) | (exact absurd rfl h) | (cases h))
    · obtain ⟨z, hz, rfl⟩ := Option.map_eq_some_iff.1 hp
      obtain ⟨h5, h6⟩ := bind2.2 z hz
      rw [k2 _ h5, k3 _ h6]
theorem wParseSp_any (s : List UInt8) (hl : s.length ≤ 1000000) : ∃ q, Sat cx.P cx.gl 114 [SS s] (.tup [(true, sp q), Bo (spN s).isSome]) ∧ ∀ p, spN s = some p → p = q := by
  obtain ⟨v, u, v', u', c, k⟩ := two2_any s hl
  refine ⟨(v, u, v', u'), ?_, k⟩
  generalize (spN s).isSome = x at *
  refine sF f114 ?_
  repeat ((first | (refine kO 7 rfl ?_; first | refine rG (fun _ z => ⟨_, c, z⟩) ?_) | refine tG ?_ | exact True.intro); (try conv => whnf))
  (first | done | rfl | exact True.intro)
end Go.Proofs.Tryz
