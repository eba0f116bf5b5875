/- Parts of the proof, joined. -/

import Derived.Test.YtnbfdfmphbehoaaGreatDoorFe
import Derived.Test.YtnbfdfmphbehoaaGreatDoorNa
import Derived.Test.YtnbfdfmphbehoaaGreatDoorWa
import Derived.Test.YtnbfdfmphbehoaaGreatDoorZb
import Derived.Test.YtnbfdfmphbehoaaGreatDoorFc
namespace Go.Proofs.Tryz
open Go.Fw Go.IntWalk Go.Plain
set_option maxRecDepth 100000
set_option maxHeartbeats 8000000
theorem strs_snocN (l : List Str) (x : Str) : strs (l ++ [x]) = strs l ++ [[.lit (.string (B x))]] := by simp
theorem rIsSized_sat (n m : Int) (h : -9223372036854775807 ≤ m ∧ m ≤ 9223372036854775807) : Sat cx.P cx.gl 93 [I n, I m] (.one (Bo (decide (-m ≤ n) && decide (n ≤ m)))) := by
  refine sF f93 ?_
  repeat ((first | (refine kO 7 rfl ?_; first | refine rG (fun _ z => ⟨_, rWithin_sat _ _ _, z⟩) ?_) | refine tG ?_ | exact True.intro); (try conv => whnf))
  (first | done | rfl | exact True.intro)
theorem rIsImpulse_sat (k : Int) : Sat cx.P cx.gl 91 [I k] (.one (Bo (decide (isImp k)))) := by
  refine sF f91 ?_
  repeat' ((first | refine tG ?_ | exact True.intro | refine brp (fun h => ?_) fun h => ?_ | refine opsA_ifp rfl rfl rfl (fun h => ?_) fun h => ?_ | refine opsA_unlessp rfl rfl rfl (fun h => ?_) fun h => ?_) <;> (try conv => whnf))
  all_goals exact resB (by rw [Bool.eq_iff_iff]; simp; unfold isImp; omega)
theorem among_sat (l all : List Str) (hl : l.length ≤ 1000) (ha : all.length ≤ 1000) : Sat cx.P cx.gl 63 [V1 l, V1 all] (.one (I (among l all))) := by
  have hn : (strs l).length = l.length := by simp
  refine sF f63 ?_
  (try (refine tG ?_; try exact True.intro))
  refine loop_ind (ι := Nat) (fun i => i ≤ l.length ∧ ∀ j < i, amE l all j = 0) (fun i => l.length - i) (fun i => ⟨[(0, some (.val (false, [.st (.view (strs l))]))), (1, some (.val (false, [.st (.view (strs all))]))), (8, some (.val (false, [.st (.view (strs l))]))), (9, vI l.length), (10, vI i)], [], 0⟩) 0 (canon_auto (by rw [← hn]; kernel_rfl)) ⟨Nat.zero_le _, fun j hj => by omega⟩ ?_
  rintro i ⟨hi, hp⟩
  by_cases hlt : i < l.length
  · have he := sA hlt
    have hfi : amE l all i = if l.getD i [] ∈ all then (if l.getD i [] ∈ l.take i then 23 else 0) else 6 := rfl
    have hret := fun (h : amE l all i ≠ 0) => scanA_at (f := amE l all) hlt hp h
    have hnx := fun (h : amE l all i = 0) => all_succ hp h
    have hra : among l all = (scanA (amE l all) l.length).2 := rfl
    have c1 := contains_sat all (l.getD i []) (by omega)
    have c2 := contains_sat (l.take i) (l.getD i []) (by simp; omega)
    have htk : (strs l).take i = strs (l.take i) := by simp
    generalize l.getD i [] = s at *
    by_cases h1 : s ∈ all
    · rw [decide_eq_true h1] at c1
      rw [if_pos h1] at hfi
      by_cases h2 : s ∈ l.take i
      · rw [decide_eq_true h2] at c2
        rw [if_pos h2] at hfi
        rw [hra, hret (by rw [hfi]; decide), hfi]
        repeat' ((first | (refine kO 7 rfl ?_; first | refine rG (fun _ z => ⟨_, c1, z⟩) ?_ | refine rG (fun _ z => ⟨_, c2, z⟩) ?_ | refine rG (fun _ z => ⟨_, unl_t _, z⟩) ?_ | refine rG (fun _ z => ⟨_, unl_f _, z⟩) ?_ | refine rG (fun _ z => ⟨_, fst_b _, z⟩) ?_) | refine tG ?_ | exact True.intro | refine brp (fun h => ?_) fun h => ?_ | refine opsA_ifp rfl rfl rfl (fun h => ?_) fun h => ?_ | refine opsA_unlessp rfl rfl rfl (fun h => ?_) fun h => ?_) <;> (try conv => whnf))
        all_goals first | (exfalso; omega) | rfl
      · rw [decide_eq_false h2] at c2
        rw [if_neg h2] at hfi
        repeat' ((first | (refine kO 7 rfl ?_; first | refine rG (fun _ z => ⟨_, c1, z⟩) ?_ | refine rG (fun _ z => ⟨_, c2, z⟩) ?_ | refine rG (fun _ z => ⟨_, unl_t _, z⟩) ?_ | refine rG (fun _ z => ⟨_, unl_f _, z⟩) ?_ | refine rG (fun _ z => ⟨_, fst_b _, z⟩) ?_) | refine tG ?_ | exact True.intro | refine brp (fun h => ?_) fun h => ?_ | refine opsA_ifp rfl rfl rfl (fun h => ?_) fun h => ?_ | refine opsA_unlessp rfl rfl rfl (fun h => ?_) fun h => ?_) <;> (try conv => whnf))
        all_goals first | (exfalso; omega) | exact ⟨i + 1, ⟨hlt, hnx hfi⟩, by omega, cA⟩
    · rw [decide_eq_false h1] at c1
      rw [if_neg h1] at hfi
      rw [hra, hret (by rw [hfi]; decide), hfi]
      by_cases h2 : s ∈ l.take i
      · rw [decide_eq_true h2] at c2
        repeat' ((first | (refine kO 7 rfl ?_; first | refine rG (fun _ z => ⟨_, c1, z⟩) ?_ | refine rG (fun _ z => ⟨_, c2, z⟩) ?_ | refine rG (fun _ z => ⟨_, unl_t _, z⟩) ?_ | refine rG (fun _ z => ⟨_, unl_f _, z⟩) ?_ | refine rG (fun _ z => ⟨_, fst_a (show (6 : Int) ≠ 0 by decide), z⟩) ?_) | refine tG ?_ | exact True.intro | refine brp (fun h => ?_) fun h => ?_ | refine opsA_ifp rfl rfl rfl (fun h => ?_) fun h => ?_ | refine opsA_unlessp rfl rfl rfl (fun h => ?_) fun h => ?_) <;> (try conv => whnf))
        all_goals first | (exfalso; omega) | rfl
      · rw [decide_eq_false h2] at c2
        repeat' ((first | (refine kO 7 rfl ?_; first | refine rG (fun _ z => ⟨_, c1, z⟩) ?_ | refine rG (fun _ z => ⟨_, c2, z⟩) ?_ | refine rG (fun _ z => ⟨_, unl_t _, z⟩) ?_ | refine rG (fun _ z => ⟨_, unl_f _, z⟩) ?_ | refine rG (fun _ z => ⟨_, fst_a (show (6 : Int) ≠ 0 by decide), z⟩) ?_) | refine tG ?_ | exact True.intro | refine brp (fun h => ?_) fun h => ?_ | refine opsA_ifp rfl rfl rfl (fun h => ?_) fun h => ?_ | refine opsA_unlessp rfl rfl rfl (fun h => ?_) fun h => ?_) <;> (try conv => whnf))
        all_goals first | (exfalso; omega) | rfl
  · obtain rfl : i = l.length := by omega
    have hra : among l all = 0 := by unfold among; rw [scanA_no hp]
    rw [hra]
    repeat' ((first | refine tG ?_ | exact True.intro | refine brp (fun h => ?_) fun h => ?_ | refine opsA_ifp rfl rfl rfl (fun h => ?_) fun h => ?_ | refine opsA_unlessp rfl rfl rfl (fun h => ?_) fun h => ?_) <;> (try conv => whnf))
    all_goals first | (exfalso; omega) | rfl
theorem testsOf_sat (l : List Ts) (hl : l.length ≤ 1000) : Sat cx.P cx.gl 64 [(false, [.view (l.map tsC)])] (.own 1 (.view (strs (tnm l)))) := by
  have hn : (l.map tsC).length = l.length := by simp
  have hnl : (tnm l).length = l.length := by simp [tnm]
  refine sF f64 ?_
  (try (refine tG ?_; try exact True.intro))
  refine loop_ind (ι := Nat) (fun i => i ≤ l.length) (fun i => l.length - i) (fun i => ⟨[(3, pO 0), (6, some (.val (false, [.st (.view (l.map tsC))]))), (7, vI l.length), (8, vI i)], [(0, some (.row true 1 (.view (strs ((tnm l).take i)))))], 1⟩) 0 (Sub.trans (nil_sub 3 1 (.view []) (by decide) rfl rfl rfl) (canon_auto (by rw [← hn]; kernel_rfl))) (Nat.zero_le _) ?_
  intro i hi
  by_cases hlt : i < l.length
  · have he := map_at (f := tsC) hlt ts0
    have hts := take_succ (l := tnm l) (i := i) (by omega)
    rw [tnm_get hlt] at hts
    have hll : (strs ((tnm l).take i)).length ≤ 1000 := by simp; omega
    repeat' ((first | refine tG ?_ | exact True.intro | refine brp (fun h => ?_) fun h => ?_ | refine opsA_ifp rfl rfl rfl (fun h => ?_) fun h => ?_ | refine opsA_unlessp rfl rfl rfl (fun h => ?_) fun h => ?_) <;> (try conv => whnf))
    all_goals first | (exfalso; omega) | exact ⟨i + 1, hlt, by omega, canon_auto (by rw [hts, strs_snocN]; kernel_rfl)⟩
  · obtain rfl : i = l.length := by omega
    rw [List.take_of_length_le (by omega)]
    repeat' ((first | refine tG ?_ | exact True.intro | refine brp (fun h => ?_) fun h => ?_ | refine opsA_ifp rfl rfl rfl (fun h => ?_) fun h => ?_ | refine opsA_unlessp rfl rfl rfl (fun h => ?_) fun h => ?_) <;> (try conv => whnf))
    all_goals first | (exfalso; omega) | rfl
end Go.Proofs.Tryz
namespace Go.Proofs.Tryz
open Go.Fw Go.IntWalk Go.Plain
set_option maxRecDepth 100000
set_option maxHeartbeats 8000000
def reF (s : Str) : Int := (endRul (rulPre (spl 59 s))).2
abbrev TsL (l : List Ts) : SV := (false, [.view (l.map tsC)])
theorem kinds_eq {l : List Ts} {k : Nat} (h : k < l.length) : (l.map tsC)[k]? = some (tsC (l.getD k ts0)) := map_at (f := tsC) h ts0
theorem idx_in {l : List Str} {x : Str} (h : x ∈ l) : ∃ k, k < l.length ∧ idxI l x = (k : Int) := by
  refine ⟨l.idxOf x, List.idxOf_lt_length_of_mem h, ?_⟩
  unfold idxI; rw [if_pos h]
theorem among_zero {l all : List Str} (h : among l all = 0) (i : Nat) (hi : i < l.length) : l.getD i [] ∈ all ∧ l.getD i [] ∉ l.take i := by
  have := scanA_zero (f := amE l all) h i hi
  unfold amE at this
  by_cases h1 : l.getD i [] ∈ all
  · rw [if_pos h1] at this
    by_cases h2 : l.getD i [] ∈ l.take i
    · rw [if_pos h2] at this; cases this
    · exact ⟨h1, h2⟩
  · rw [if_neg h1] at this; cases this
theorem tsE_a {re : Str → Int} {l : List Ts} {i : Nat} (h : ¬ (0 ≤ (l.getD i ts0).kind ∧ (l.getD i ts0).kind ≤ 3)) : tsE re l i = 15 := by
  show orE (if _ then 0 else 15) _ = 15
  rw [if_neg h, orE_no (by decide)]
theorem tsE_b {re : Str → Int} {l : List Ts} {i : Nat} (h : 0 ≤ (l.getD i ts0).kind ∧ (l.getD i ts0).kind ≤ 3) (ha : among (l.getD i ts0).needs ((tnm l).take i) ≠ 0) : tsE re l i = among (l.getD i ts0).needs ((tnm l).take i) := by
  show orE (if _ then 0 else 15) (orE _ _) = _
  rw [if_pos h, orE_0, orE_no ha]
theorem tsE_c {re : Str → Int} {l : List Ts} {i : Nat} (h : 0 ≤ (l.getD i ts0).kind ∧ (l.getD i ts0).kind ≤ 3) (ha : among (l.getD i ts0).needs ((tnm l).take i) = 0) (hc : cmpE l (l.getD i ts0) ≠ 0) : tsE re l i = cmpE l (l.getD i ts0) := by
  show orE (if _ then 0 else 15) (orE _ (orE _ _)) = _
  rw [if_pos h, orE_0, ha, orE_0, orE_no hc]
theorem tsE_d {re : Str → Int} {l : List Ts} {i : Nat} (h : 0 ≤ (l.getD i ts0).kind ∧ (l.getD i ts0).kind ≤ 3) (ha : among (l.getD i ts0).needs ((tnm l).take i) = 0) (hc : cmpE l (l.getD i ts0) = 0) :
    tsE re l i = orE (if isImp (l.getD i ts0).kind then re (l.getD i ts0).rules else if (l.getD i ts0).rules = [] then 0 else 7) (limE (l.getD i ts0).lo (l.getD i ts0).hi) := by
  show orE (if _ then 0 else 15) (orE _ (orE _ _)) = _
  rw [if_pos h, orE_0, ha, orE_0, hc, orE_0]
theorem fst_3 (a b c : Int) : Sat cx.P cx.gl 40 [(false, [.ints [a, b, c]])] (.one (I (fs [a, b, c]))) := rFirst_sat [a, b, c] (Nat.le_of_ble_eq_true rfl)
theorem lim_fs (e lo hi : Int) : fs [e, if ((-1000000000000000 ≤ lo ∧ lo ≤ 1000000000000000) ∧ -1000000000000000 ≤ hi ∧ hi ≤ 1000000000000000) then 0 else 2, if lo ≤ hi then 0 else 9] = orE e (limE lo hi) := by
  unfold orE limE fs fs fs fs
  by_cases h1 : e = 0
  · subst h1
    by_cases h2 : ((-1000000000000000 ≤ lo ∧ lo ≤ 1000000000000000) ∧ -1000000000000000 ≤ hi ∧ hi ≤ 1000000000000000)
    · by_cases h3 : lo ≤ hi <;> simp [h2, h3]
    · by_cases h3 : lo ≤ hi <;> simp [h2, h3]
  · simp [h1]
section
variable (l : List Ts) (i : Nat) (hl : l.length ≤ 1000) (hlt : i < l.length) (hn : (l.getD i ts0).needs.length ≤ 1000) (hr : (l.getD i ts0).rules.length ≤ 10000)
include hl hlt hn hr
theorem testErr_sat : Sat cx.P cx.gl 57 [TsL l, I i] (.one (I (tsE reF l i))) := by
  have he := kinds_eq hlt
  have htk : (l.map tsC).take i = (l.take i).map tsC := by rw [List.map_take]
  have hmt := testsOf_sat (l.take i) (by simp; omega)
  rw [tnm_take] at hmt
  have hmf := testsOf_sat l hl
  have ham := among_sat (l.getD i ts0).needs ((tnm l).take i) hn (by simp [tnm]; omega)
  have ta := tsE_a (re := reF) (l := l) (i := i)
  have tb := tsE_b (re := reF) (l := l) (i := i)
  have tc := tsE_c (re := reF) (l := l) (i := i)
  have td := tsE_d (re := reF) (l := l) (i := i)
  have hpr := wParseRules_sat (l.getD i ts0).rules hr
  have hre : (endRul (rulPre (spl 59 (l.getD i ts0).rules))).2 = reF (l.getD i ts0).rules := rfl
  have hz := among_zero (l := (l.getD i ts0).needs) (all := (tnm l).take i)
  have hcm : cmpE l (l.getD i ts0) = if (l.getD i ts0).kind = 2 then (if (l.getD i ts0).needs.length = 0 then 10 else if (l.getD (idxI (tnm l) ((l.getD i ts0).needs.getD 0 [])).toNat ts0).kind = 1 then 0 else 3) else 0 := rfl
  have hu : ∀ e ∈ l.map tsC, e.length = 6 := by
    intro e he; obtain ⟨t, _, rfl⟩ := List.mem_map.1 he; rfl
  generalize ht : l.getD i ts0 = t at *
  generalize hA : among t.needs ((tnm l).take i) = A at *
  rcases t with ⟨nm, kd, nd, ru, lo, hi⟩
  dsimp only at *
  have he : (l.map tsC)[i]? = some [T nm, J kd, .view (strs nd), T ru, J lo, J hi] := he
  have hnd : (strs nd).length = nd.length := by simp
  have hll : (l.map tsC).length = l.length := by simp
  by_cases h1 : 0 ≤ kd ∧ kd ≤ 3
  · by_cases h2 : A = 0
    · have hA0 := h2
      subst h2
      by_cases h3 : kd = 2
      · rw [if_pos h3] at hcm
        by_cases h4 : nd.length = 0
        · rw [if_pos h4] at hcm
          rw [tc h1 rfl (by rw [hcm]; decide), hcm]
          refine sF f57 ?_
          repeat ((first | (refine kO 7 rfl ?_; first | refine rG (fun _ z => ⟨_, rWithin_sat _ _ _, z⟩) ?_ | refine rG (fun _ z => ⟨_, rUnless_yes h1 _, z⟩) ?_ | refine rG (fun _ z => ⟨_, hmt, z⟩) ?_ | refine rG (fun _ z => ⟨_, ham, z⟩) ?_ | refine rG (fun _ z => ⟨_, fst_b _, z⟩) ?_) | refine tG ?_ | exact True.intro); (try conv => whnf))
          refine rVMH hu rfl rfl rfl rfl rfl rfl (by simp; omega) ?_
          conv => whnf
          rw [htk]
          repeat' ((first | (refine kO 7 rfl ?_; first | refine rG (fun _ z => ⟨_, rWithin_sat _ _ _, z⟩) ?_ | refine rG (fun _ z => ⟨_, rUnless_yes h1 _, z⟩) ?_ | refine rG (fun _ z => ⟨_, hmt, z⟩) ?_ | refine rG (fun _ z => ⟨_, ham, z⟩) ?_ | refine rG (fun _ z => ⟨_, fst_b _, z⟩) ?_) | refine tG ?_ | exact True.intro | refine brp (fun h => ?_) fun h => ?_ | refine opsA_ifp rfl rfl rfl (fun h => ?_) fun h => ?_ | refine opsA_unlessp rfl rfl rfl (fun h => ?_) fun h => ?_) <;> (try conv => whnf))
          all_goals first | (exfalso; omega) | rfl
        · have hlt0 : 0 < nd.length := by omega
          obtain ⟨hm0, _⟩ := hz hA0 0 hlt0
          have he0 := sA hlt0
          obtain ⟨k0, hk1, hk0⟩ := idx_in (List.mem_of_mem_take hm0)
          have hix := index_sat (tnm l) (nd.getD 0 []) (by simp [tnm]; omega)
          rw [hk0] at hix
          have hek := kinds_eq (l := l) (k := k0) (by simpa [tnm] using hk1)
          have hkl : k0 < l.length := by simpa [tnm] using hk1
          rw [if_neg h4, hk0, Int.toNat_natCast] at hcm
          generalize nd.getD 0 [] = n0 at *
          generalize l.getD k0 ts0 = t0 at *
          rcases t0 with ⟨nm0, kd0, nd0, ru0, lo0, hi0⟩
          have hek : (l.map tsC)[k0]? = some [T nm0, J kd0, .view (strs nd0), T ru0, J lo0, J hi0] := hek
          dsimp only at hcm
          by_cases h5 : kd0 = 1
          · rw [if_pos h5] at hcm
            rw [td h1 rfl hcm]
            by_cases hi1 : isImp kd
            · rw [if_pos hi1]
              have him := rIsImpulse_sat kd
              rw [decide_eq_true hi1] at him
              refine sF f57 ?_
              repeat ((first | (refine kO 7 rfl ?_; first | refine rG (fun _ z => ⟨_, rWithin_sat _ _ _, z⟩) ?_ | refine rG (fun _ z => ⟨_, rUnless_yes h1 _, z⟩) ?_ | refine rG (fun _ z => ⟨_, hmt, z⟩) ?_ | refine rG (fun _ z => ⟨_, ham, z⟩) ?_ | refine rG (fun _ z => ⟨_, fst_b _, z⟩) ?_) | refine tG ?_ | exact True.intro); (try conv => whnf))
              refine rVMH hu rfl rfl rfl rfl rfl rfl (by simp; omega) ?_
              conv => whnf
              rw [htk]
              repeat' ((first | (refine kO 7 rfl ?_; first | refine rG (fun _ z => ⟨_, rWithin_sat _ _ _, z⟩) ?_ | refine rG (fun _ z => ⟨_, rUnless_yes h1 _, z⟩) ?_ | refine rG (fun _ z => ⟨_, hmt, z⟩) ?_ | refine rG (fun _ z => ⟨_, ham, z⟩) ?_ | refine rG (fun _ z => ⟨_, fst_b _, z⟩) ?_ | refine rG (fun _ z => ⟨_, hmf, z⟩) ?_ | refine rG (fun _ z => ⟨_, hix, z⟩) ?_ | refine rG (fun _ z => ⟨_, him, z⟩) ?_ | refine rG (fun _ z => ⟨_, hpr, z⟩) ?_ | refine rG (fun _ z => ⟨_, rUnless_b _ _, z⟩) ?_ | refine rG (fun _ z => ⟨_, rIsSized_sat _ _ (by omega), z⟩) ?_ | refine rG (fun _ z => ⟨_, fst_3 _ _ _, z⟩) ?_) | refine tG ?_ | exact True.intro | refine brp (fun h => ?_) fun h => ?_ | refine opsA_ifp rfl rfl rfl (fun h => ?_) fun h => ?_ | refine opsA_unlessp rfl rfl rfl (fun h => ?_) fun h => ?_) <;> (try conv => whnf))
              all_goals first | (exfalso; omega) | (exact resI (by rw [← lim_fs]; simp [*])) | (exact resI (by rw [← lim_fs]; simp_all))
            · rw [if_neg hi1]
              have him := rIsImpulse_sat kd
              rw [decide_eq_false hi1] at him
              refine sF f57 ?_
              repeat ((first | (refine kO 7 rfl ?_; first | refine rG (fun _ z => ⟨_, rWithin_sat _ _ _, z⟩) ?_ | refine rG (fun _ z => ⟨_, rUnless_yes h1 _, z⟩) ?_ | refine rG (fun _ z => ⟨_, hmt, z⟩) ?_ | refine rG (fun _ z => ⟨_, ham, z⟩) ?_ | refine rG (fun _ z => ⟨_, fst_b _, z⟩) ?_) | refine tG ?_ | exact True.intro); (try conv => whnf))
              refine rVMH hu rfl rfl rfl rfl rfl rfl (by simp; omega) ?_
              conv => whnf
              rw [htk]
              repeat' ((first | (refine kO 7 rfl ?_; first | refine rG (fun _ z => ⟨_, rWithin_sat _ _ _, z⟩) ?_ | refine rG (fun _ z => ⟨_, rUnless_yes h1 _, z⟩) ?_ | refine rG (fun _ z => ⟨_, hmt, z⟩) ?_ | refine rG (fun _ z => ⟨_, ham, z⟩) ?_ | refine rG (fun _ z => ⟨_, fst_b _, z⟩) ?_ | refine rG (fun _ z => ⟨_, hmf, z⟩) ?_ | refine rG (fun _ z => ⟨_, hix, z⟩) ?_ | refine rG (fun _ z => ⟨_, him, z⟩) ?_ | refine rG (fun _ z => ⟨_, hpr, z⟩) ?_ | refine rG (fun _ z => ⟨_, rUnless_b _ _, z⟩) ?_ | refine rG (fun _ z => ⟨_, rIsSized_sat _ _ (by omega), z⟩) ?_ | refine rG (fun _ z => ⟨_, fst_3 _ _ _, z⟩) ?_) | refine tG ?_ | exact True.intro | refine brp (fun h => ?_) fun h => ?_ | refine opsA_ifp rfl rfl rfl (fun h => ?_) fun h => ?_ | refine opsA_unlessp rfl rfl rfl (fun h => ?_) fun h => ?_) <;> (try conv => whnf))
              all_goals first | (exfalso; omega) | (exact resI (by rw [← lim_fs]; simp [*])) | (exact resI (by rw [← lim_fs]; simp_all))
          · rw [if_neg h5] at hcm
            rw [tc h1 rfl (by rw [hcm]; decide), hcm]
            refine sF f57 ?_
            repeat ((first | (refine kO 7 rfl ?_; first | refine rG (fun _ z => ⟨_, rWithin_sat _ _ _, z⟩) ?_ | refine rG (fun _ z => ⟨_, rUnless_yes h1 _, z⟩) ?_ | refine rG (fun _ z => ⟨_, hmt, z⟩) ?_ | refine rG (fun _ z => ⟨_, ham, z⟩) ?_ | refine rG (fun _ z => ⟨_, fst_b _, z⟩) ?_) | refine tG ?_ | exact True.intro); (try conv => whnf))
            refine rVMH hu rfl rfl rfl rfl rfl rfl (by simp; omega) ?_
            conv => whnf
            rw [htk]
            repeat' ((first | (refine kO 7 rfl ?_; first | refine rG (fun _ z => ⟨_, rWithin_sat _ _ _, z⟩) ?_ | refine rG (fun _ z => ⟨_, rUnless_yes h1 _, z⟩) ?_ | refine rG (fun _ z => ⟨_, hmt, z⟩) ?_ | refine rG (fun _ z => ⟨_, ham, z⟩) ?_ | refine rG (fun _ z => ⟨_, fst_b _, z⟩) ?_ | refine rG (fun _ z => ⟨_, hmf, z⟩) ?_ | refine rG (fun _ z => ⟨_, hix, z⟩) ?_) | refine tG ?_ | exact True.intro | refine brp (fun h => ?_) fun h => ?_ | refine opsA_ifp rfl rfl rfl (fun h => ?_) fun h => ?_ | refine opsA_unlessp rfl rfl rfl (fun h => ?_) fun h => ?_) <;> (try conv => whnf))
            all_goals first | (exfalso; omega) | rfl
      · rw [if_neg h3] at hcm
        rw [td h1 rfl hcm]
        by_cases hi1 : isImp kd
        · rw [if_pos hi1]
          have him := rIsImpulse_sat kd
          rw [decide_eq_true hi1] at him
          refine sF f57 ?_
          repeat ((first | (refine kO 7 rfl ?_; first | refine rG (fun _ z => ⟨_, rWithin_sat _ _ _, z⟩) ?_ | refine rG (fun _ z => ⟨_, rUnless_yes h1 _, z⟩) ?_ | refine rG (fun _ z => ⟨_, hmt, z⟩) ?_ | refine rG (fun _ z => ⟨_, ham, z⟩) ?_ | refine rG (fun _ z => ⟨_, fst_b _, z⟩) ?_) | refine tG ?_ | exact True.intro); (try conv => whnf))
          refine rVMH hu rfl rfl rfl rfl rfl rfl (by simp; omega) ?_
          conv => whnf
          rw [htk]
          repeat' ((first | (refine kO 7 rfl ?_; first | refine rG (fun _ z => ⟨_, rWithin_sat _ _ _, z⟩) ?_ | refine rG (fun _ z => ⟨_, rUnless_yes h1 _, z⟩) ?_ | refine rG (fun _ z => ⟨_, hmt, z⟩) ?_ | refine rG (fun _ z => ⟨_, ham, z⟩) ?_ | refine rG (fun _ z => ⟨_, fst_b _, z⟩) ?_ | refine rG (fun _ z => ⟨_, him, z⟩) ?_ | refine rG (fun _ z => ⟨_, hpr, z⟩) ?_ | refine rG (fun _ z => ⟨_, rUnless_b _ _, z⟩) ?_ | refine rG (fun _ z => ⟨_, rIsSized_sat _ _ (by omega), z⟩) ?_ | refine rG (fun _ z => ⟨_, fst_3 _ _ _, z⟩) ?_) | refine tG ?_ | exact True.intro | refine brp (fun h => ?_) fun h => ?_ | refine opsA_ifp rfl rfl rfl (fun h => ?_) fun h => ?_ | refine opsA_unlessp rfl rfl rfl (fun h => ?_) fun h => ?_) <;> (try conv => whnf))
          all_goals first | (exfalso; omega) | (exact resI (by rw [← lim_fs]; simp [*])) | (exact resI (by rw [← lim_fs]; simp_all))
        · rw [if_neg hi1]
          have him := rIsImpulse_sat kd
          rw [decide_eq_false hi1] at him
          refine sF f57 ?_
          repeat ((first | (refine kO 7 rfl ?_; first | refine rG (fun _ z => ⟨_, rWithin_sat _ _ _, z⟩) ?_ | refine rG (fun _ z => ⟨_, rUnless_yes h1 _, z⟩) ?_ | refine rG (fun _ z => ⟨_, hmt, z⟩) ?_ | refine rG (fun _ z => ⟨_, ham, z⟩) ?_ | refine rG (fun _ z => ⟨_, fst_b _, z⟩) ?_) | refine tG ?_ | exact True.intro); (try conv => whnf))
          refine rVMH hu rfl rfl rfl rfl rfl rfl (by simp; omega) ?_
          conv => whnf
          rw [htk]
          repeat' ((first | (refine kO 7 rfl ?_; first | refine rG (fun _ z => ⟨_, rWithin_sat _ _ _, z⟩) ?_ | refine rG (fun _ z => ⟨_, rUnless_yes h1 _, z⟩) ?_ | refine rG (fun _ z => ⟨_, hmt, z⟩) ?_ | refine rG (fun _ z => ⟨_, ham, z⟩) ?_ | refine rG (fun _ z => ⟨_, fst_b _, z⟩) ?_ | refine rG (fun _ z => ⟨_, him, z⟩) ?_ | refine rG (fun _ z => ⟨_, hpr, z⟩) ?_ | refine rG (fun _ z => ⟨_, rUnless_b _ _, z⟩) ?_ | refine rG (fun _ z => ⟨_, rIsSized_sat _ _ (by omega), z⟩) ?_ | refine rG (fun _ z => ⟨_, fst_3 _ _ _, z⟩) ?_) | refine tG ?_ | exact True.intro | refine brp (fun h => ?_) fun h => ?_ | refine opsA_ifp rfl rfl rfl (fun h => ?_) fun h => ?_ | refine opsA_unlessp rfl rfl rfl (fun h => ?_) fun h => ?_) <;> (try conv => whnf))
          all_goals first | (exfalso; omega) | (exact resI (by rw [← lim_fs]; simp [*])) | (exact resI (by rw [← lim_fs]; simp_all))
    · rw [tb h1 h2]
      refine sF f57 ?_
      repeat ((first | (refine kO 7 rfl ?_; first | refine rG (fun _ z => ⟨_, rWithin_sat _ _ _, z⟩) ?_ | refine rG (fun _ z => ⟨_, rUnless_yes h1 _, z⟩) ?_ | refine rG (fun _ z => ⟨_, hmt, z⟩) ?_ | refine rG (fun _ z => ⟨_, ham, z⟩) ?_ | refine rG (fun _ z => ⟨_, fst_b _, z⟩) ?_) | refine tG ?_ | exact True.intro); (try conv => whnf))
      refine rVMH hu rfl rfl rfl rfl rfl rfl (by simp; omega) ?_
      conv => whnf
      rw [htk]
      repeat' ((first | (refine kO 7 rfl ?_; first | refine rG (fun _ z => ⟨_, rWithin_sat _ _ _, z⟩) ?_ | refine rG (fun _ z => ⟨_, rUnless_yes h1 _, z⟩) ?_ | refine rG (fun _ z => ⟨_, hmt, z⟩) ?_ | refine rG (fun _ z => ⟨_, ham, z⟩) ?_ | refine rG (fun _ z => ⟨_, fst_b _, z⟩) ?_) | refine tG ?_ | exact True.intro | refine brp (fun h => ?_) fun h => ?_ | refine opsA_ifp rfl rfl rfl (fun h => ?_) fun h => ?_ | refine opsA_unlessp rfl rfl rfl (fun h => ?_) fun h => ?_) <;> (try conv => whnf))
      all_goals first | (exfalso; omega) | rfl
  · rw [ta h1]
    refine sF f57 ?_
    repeat ((first | (refine kO 7 rfl ?_; first | refine rG (fun _ z => ⟨_, rWithin_sat _ _ _, z⟩) ?_ | refine rG (fun _ z => ⟨_, rUnless_no h1 _, z⟩) ?_ | refine rG (fun _ z => ⟨_, hmt, z⟩) ?_ | refine rG (fun _ z => ⟨_, ham, z⟩) ?_ | refine rG (fun _ z => ⟨_, fst_a (show (15 : Int) ≠ 0 by decide), z⟩) ?_) | refine tG ?_ | exact True.intro); (try conv => whnf))
    refine rVMH hu rfl rfl rfl rfl rfl rfl (by simp; omega) ?_
    conv => whnf
    rw [htk]
    repeat' ((first | (refine kO 7 rfl ?_; first | refine rG (fun _ z => ⟨_, rWithin_sat _ _ _, z⟩) ?_ | refine rG (fun _ z => ⟨_, rUnless_no h1 _, z⟩) ?_ | refine rG (fun _ z => ⟨_, hmt, z⟩) ?_ | refine rG (fun _ z => ⟨_, ham, z⟩) ?_ | refine rG (fun _ z => ⟨_, fst_a (show (15 : Int) ≠ 0 by decide), z⟩) ?_) | refine tG ?_ | exact True.intro | refine brp (fun h => ?_) fun h => ?_ | refine opsA_ifp rfl rfl rfl (fun h => ?_) fun h => ?_ | refine opsA_unlessp rfl rfl rfl (fun h => ?_) fun h => ?_) <;> (try conv => whnf))
    all_goals first | (exfalso; omega) | rfl
end
end Go.Proofs.Tryz
namespace Go.Proofs.Tryz
open Go.Fw Go.IntWalk Go.Plain
set_option maxRecDepth 100000
set_option maxHeartbeats 8000000
theorem part1_sat (x : Str × List Str) (n : Str) : Sat cx.P cx.gl 95 [(true, ptC x), (false, [.ref [T n]])] (.one (Bo (decide (x.1 = n)))) := by
  refine sF f95 ?_
  (try (refine tG ?_; try exact True.intro))
  (first | done | rfl | exact True.intro)
theorem idxI_hit {l : List Str} {x : Str} {i : Nat} (h : i < l.length) (e : l.getD i [] = x) (hno : x ∉ l.take i) : idxI l x = i := idxI_at h (by rw [← getD_at h (d := [])]; exact e) hno
theorem idxPart_sat (ps : List (Str × List Str)) (n : Str) (hl : ps.length ≤ 1000) : Sat cx.P cx.gl 94 [(false, [.view (ps.map ptC)]), Fn1 95 [[T n]]] (.one (I (idxI (ps.map Prod.fst) n))) := by
  have hn : (ps.map ptC).length = ps.length := by simp
  have hnl : (ps.map Prod.fst).length = ps.length := by simp
  refine sF f94 ?_
  (try (refine tG ?_; try exact True.intro))
  refine loop_ind (ι := Nat) (fun i => i ≤ ps.length ∧ n ∉ (ps.map Prod.fst).take i) (fun i => ps.length - i) (fun i => ⟨[(0, some (.val (false, [.st (.view (ps.map ptC))]))), (1, vF 95 [[T n]]), (7, vI ps.length), (8, vI i)], [], 0⟩) 0 (canon_auto (by rw [← hn]; kernel_rfl)) ⟨Nat.zero_le _, by simp⟩ ?_
  rintro i ⟨hi, hno⟩
  by_cases hlt : i < ps.length
  · have he := map_at (f := ptC) hlt ([], [])
    have hg : (ps.map Prod.fst).getD i [] = (ps.getD i ([], [])).1 := by rw [getD_at hlt, getD_at (by omega)]; simp
    have hhit := fun e => idxI_hit (l := ps.map Prod.fst) (x := n) (i := i) (by omega) e hno
    have hms := mem_succ (l := ps.map Prod.fst) (i := i) (x := n) (by omega)
    rw [hg] at hhit hms
    have hp1 := part1_sat (ps.getD i ([], [])) n
    by_cases hx : (ps.getD i ([], [])).1 = n
    · rw [decide_eq_true hx] at hp1
      rw [hhit hx]
      repeat' ((first | (refine kO 7 rfl ?_; first | refine rG (fun _ z => ⟨_, hp1, z⟩) ?_) | refine tG ?_ | exact True.intro | refine brp (fun h => ?_) fun h => ?_ | refine opsA_ifp rfl rfl rfl (fun h => ?_) fun h => ?_ | refine opsA_unlessp rfl rfl rfl (fun h => ?_) fun h => ?_) <;> (try conv => whnf))
      all_goals first | (exfalso; omega) | rfl
    · rw [decide_eq_false hx] at hp1
      repeat' ((first | (refine kO 7 rfl ?_; first | refine rG (fun _ z => ⟨_, hp1, z⟩) ?_) | refine tG ?_ | exact True.intro | refine brp (fun h => ?_) fun h => ?_ | refine opsA_ifp rfl rfl rfl (fun h => ?_) fun h => ?_ | refine opsA_unlessp rfl rfl rfl (fun h => ?_) fun h => ?_) <;> (try conv => whnf))
      all_goals first | (exfalso; omega) | exact ⟨i + 1, ⟨hlt, fun hm => (hms.1 hm).elim hno fun e => hx e.symm⟩, by omega, cA⟩
  · obtain rfl : i = ps.length := by omega
    rw [List.take_of_length_le (by omega)] at hno
    rw [idxI_no hno]
    repeat' ((first | refine tG ?_ | exact True.intro | refine brp (fun h => ?_) fun h => ?_ | refine opsA_ifp rfl rfl rfl (fun h => ?_) fun h => ?_ | refine opsA_unlessp rfl rfl rfl (fun h => ?_) fun h => ?_) <;> (try conv => whnf))
    all_goals first | (exfalso; omega) | rfl
def partD (p : Pl) (n : Str) : Str × List Str := if n ∈ p.qnames then p.parts.getD (idxI p.qnames n).toNat ([], []) else ([], [])
theorem partOf_sat (p : Pl) (n : Str) (hl : p.parts.length ≤ 1000) : Sat cx.P cx.gl 67 [(true, plC p), SS n] (.tup [(true, ptC (partD p n)), Bo (decide (n ∈ p.qnames))]) := by
  have hix := idxPart_sat p.parts n hl
  have hq : p.parts.map Prod.fst = p.qnames := rfl
  have hpl : (p.parts.map ptC).length = p.parts.length := by simp
  rw [hq] at hix
  by_cases h : n ∈ p.qnames
  · obtain ⟨k, hk, e⟩ := idx_in h
    have hkl : k < p.parts.length := by simpa [Pl.qnames] using hk
    have hd : partD p n = p.parts.getD k ([], []) := by unfold partD; rw [if_pos h, e, Int.toNat_natCast]
    have hek := map_at (f := ptC) hkl ([], [])
    rw [e] at hix
    rw [hd, decide_eq_true h]
    refine sF f67 ?_
    repeat' ((first | (refine kO 7 rfl ?_; first | refine rG (fun _ z => ⟨_, hix, z⟩) ?_) | refine tG ?_ | exact True.intro | refine brp (fun h => ?_) fun h => ?_ | refine opsA_ifp rfl rfl rfl (fun h => ?_) fun h => ?_ | refine opsA_unlessp rfl rfl rfl (fun h => ?_) fun h => ?_) <;> (try conv => whnf))
    all_goals first | (exfalso; omega) | rfl
  · have hd : partD p n = ([], []) := by unfold partD; rw [if_neg h]
    rw [idxI_no h] at hix
    rw [hd, decide_eq_false h]
    refine sF f67 ?_
    repeat' ((first | (refine kO 7 rfl ?_; first | refine rG (fun _ z => ⟨_, hix, z⟩) ?_) | refine tG ?_ | exact True.intro | refine brp (fun h => ?_) fun h => ?_ | refine opsA_ifp rfl rfl rfl (fun h => ?_) fun h => ?_ | refine opsA_unlessp rfl rfl rfl (fun h => ?_) fun h => ?_) <;> (try conv => whnf))
    all_goals first | (exfalso; omega) | rfl
theorem void1_sat (s : Str) (out : List Str) (hl : out.length ≤ 1000) : Sat cx.P cx.gl 97 [SS s, (false, [.ref [.view (strs out)]])] (.one (Bo (decide (s ∈ out)))) := by
  have hc := contains_sat out s (by omega)
  refine sF f97 ?_
  repeat ((first | (refine kO 7 rfl ?_; first | refine rG (fun _ z => ⟨_, hc, z⟩) ?_) | refine tG ?_ | exact True.intro); (try conv => whnf))
  (first | done | rfl | exact True.intro)
def inE (l out : List Str) (i : Nat) : Int := if l.getD i [] ∈ out then 1 else 0
def fIdx (l out : List Str) : Int := if (scanA (inE l out) l.length).2 = 0 then -1 else (scanA (inE l out) l.length).1
theorem idxVoid_sat (l out : List Str) (hl : l.length ≤ 1000) (ho : out.length ≤ 1000) : Sat cx.P cx.gl 116 [V1 l, Fn1 97 [[.view (strs out)]]] (.one (I (fIdx l out))) := by
  have hn : (strs l).length = l.length := by simp
  refine sF f116 ?_
  (try (refine tG ?_; try exact True.intro))
  refine loop_ind (ι := Nat) (fun i => i ≤ l.length ∧ ∀ j < i, inE l out j = 0) (fun i => l.length - i) (fun i => ⟨[(0, some (.val (false, [.st (.view (strs l))]))), (1, vF 97 [[.view (strs out)]]), (7, vI l.length), (8, vI i)], [], 0⟩) 0 (canon_auto (by rw [← hn]; kernel_rfl)) ⟨Nat.zero_le _, fun j hj => by omega⟩ ?_
  rintro i ⟨hi, hp⟩
  by_cases hlt : i < l.length
  · have he := sA hlt
    have hv := void1_sat (l.getD i []) out ho
    have hfi : inE l out i = if l.getD i [] ∈ out then 1 else 0 := rfl
    have hret := fun (h : inE l out i ≠ 0) => scanA_at (f := inE l out) hlt hp h
    have hnx := fun (h : inE l out i = 0) => all_succ hp h
    by_cases hx : l.getD i [] ∈ out
    · rw [if_pos hx] at hfi
      rw [decide_eq_true hx] at hv
      have hr := hret (by rw [hfi]; decide)
      rw [hfi] at hr
      have hf : fIdx l out = i := by unfold fIdx; rw [hr]; rfl
      rw [hf]
      repeat' ((first | (refine kO 7 rfl ?_; first | refine rG (fun _ z => ⟨_, hv, z⟩) ?_) | refine tG ?_ | exact True.intro | refine brp (fun h => ?_) fun h => ?_ | refine opsA_ifp rfl rfl rfl (fun h => ?_) fun h => ?_ | refine opsA_unlessp rfl rfl rfl (fun h => ?_) fun h => ?_) <;> (try conv => whnf))
      all_goals first | (exfalso; omega) | rfl
    · rw [if_neg hx] at hfi
      rw [decide_eq_false hx] at hv
      repeat' ((first | (refine kO 7 rfl ?_; first | refine rG (fun _ z => ⟨_, hv, z⟩) ?_) | refine tG ?_ | exact True.intro | refine brp (fun h => ?_) fun h => ?_ | refine opsA_ifp rfl rfl rfl (fun h => ?_) fun h => ?_ | refine opsA_unlessp rfl rfl rfl (fun h => ?_) fun h => ?_) <;> (try conv => whnf))
      all_goals first | (exfalso; omega) | exact ⟨i + 1, ⟨hlt, hnx hfi⟩, by omega, cA⟩
  · obtain rfl : i = l.length := by omega
    have hf : fIdx l out = -1 := by unfold fIdx; rw [scanA_no hp]; rfl
    rw [hf]
    repeat' ((first | refine tG ?_ | exact True.intro | refine brp (fun h => ?_) fun h => ?_ | refine opsA_ifp rfl rfl rfl (fun h => ?_) fun h => ?_ | refine opsA_unlessp rfl rfl rfl (fun h => ?_) fun h => ?_) <;> (try conv => whnf))
    all_goals first | (exfalso; omega) | rfl
theorem fIdx_pos (l out : List Str) : 0 ≤ fIdx l out ↔ ∃ n ∈ l, n ∈ out := by
  rcases scanA_cases (inE l out) l.length with h | ⟨k, h1, h2, h3⟩
  · have : fIdx l out = -1 := by unfold fIdx; rw [scanA_no h]; rfl
    rw [this]
    refine ⟨fun e => absurd e (by decide), fun ⟨n, hn, ho⟩ => ?_⟩
    obtain ⟨j, hj, rfl⟩ := List.mem_iff_getElem.1 hn
    have := h j hj
    unfold inE at this
    rw [getD_at hj, if_pos ho] at this
    cases this
  · have : fIdx l out = k := by
      unfold fIdx
      rw [scanA_at h1 h2 h3, if_neg h3]
    rw [this]
    refine ⟨fun _ => ?_, fun _ => by omega⟩
    unfold inE at h3
    by_cases hx : l.getD k [] ∈ out
    · rw [getD_at h1] at hx; exact ⟨_, List.getElem_mem h1, hx⟩
    · rw [if_neg hx] at h3; exact absurd rfl h3
theorem contF_sat (l out : List Str) (hl : l.length ≤ 1000) (ho : out.length ≤ 1000) : Sat cx.P cx.gl 96 [V1 l, Fn1 97 [[.view (strs out)]]] (.one (Bo (decide (∃ n ∈ l, n ∈ out)))) := by
  have hi := idxVoid_sat l out hl ho
  have hp := fIdx_pos l out
  refine sF f96 ?_
  repeat ((first | (refine kO 7 rfl ?_; first | refine rG (fun _ z => ⟨_, hi, z⟩) ?_) | refine tG ?_ | exact True.intro); (try conv => whnf))
  exact resB (by rw [Bool.eq_iff_iff]; simp only [decide_eq_true_iff]; exact hp)
theorem contF_call {fid : Nat} {H : HF} {t : TypeId} {l out : List Str} (hl : l.length ≤ 1000) (ho : out.length ≤ 1000) (h1 : H 1 = some (.box t [.own 2])) (h2 : H 2 = some (.row true 1 (.view (strs out)))) :
    HCall cx fid 96 [(false, [.st (.view (strs l))]), (false, [.clo 97 1])] H (.val (dyn (Bo (decide (∃ n ∈ l, n ∈ out))))) [] [1, 2] := by
  refine HCall_mf (l := [V1 l, Fn1 97 [[.view (strs out)]]]) ⟨rfl, fun k x y hx hy => ?_⟩ (contF_sat l out hl ho) rfl ⟨rfl, rfl, rfl⟩
  match k with
  | 0 =>
    cases hx; cases hy
    refine ⟨rfl, rfl, fun k d c hd hc => ?_⟩
    match k with
    | 0 => cases hd; cases hc; exact .st _
    | k + 1 => simp at hd
  | 1 =>
    cases hx; cases hy
    refine ⟨rfl, rfl, fun k d c hd hc => ?_⟩
    match k with
    | 0 =>
      cases hd; cases hc
      refine .clo (by simp) h1 rfl fun k d c hd hc => ?_
      match k with
      | 0 => cases hd; cases hc; exact .row (by simp) h2
      | k + 1 => simp at hd
    | k + 1 => simp at hd
  | k + 2 => simp at hx
theorem contF_t {fid : Nat} {H : HF} {t : TypeId} {l out : List Str} (h : ∃ n ∈ l, n ∈ out) (hl : l.length ≤ 1000) (ho : out.length ≤ 1000) (h1 : H 1 = some (.box t [.own 2])) (h2 : H 2 = some (.row true 1 (.view (strs out)))) :
    HCall cx fid 96 [(false, [.st (.view (strs l))]), (false, [.clo 97 1])] H (.val (dyn (Bo true))) [] [1, 2] := by
  have := contF_call (fid := fid) hl ho h1 h2
  rwa [decide_eq_true h] at this
theorem contF_f {fid : Nat} {H : HF} {t : TypeId} {l out : List Str} (h : ¬ ∃ n ∈ l, n ∈ out) (hl : l.length ≤ 1000) (ho : out.length ≤ 1000) (h1 : H 1 = some (.box t [.own 2])) (h2 : H 2 = some (.row true 1 (.view (strs out)))) :
    HCall cx fid 96 [(false, [.st (.view (strs l))]), (false, [.clo 97 1])] H (.val (dyn (Bo false))) [] [1, 2] := by
  have := contF_call (fid := fid) hl ho h1 h2
  rwa [decide_eq_false h] at this
end Go.Proofs.Tryz
namespace Go.Proofs.Tryz
open Go.Fw Go.IntWalk Go.Plain
set_option maxRecDepth 100000
set_option maxHeartbeats 8000000
theorem voided_sat (p : Pl) (q : Str × List Str) (hl : p.tests.length ≤ 1000) (hq : q.2.length ≤ 1000) (hn : ∀ i < p.tests.length, (p.tests.getD i ts0).needs.length ≤ 1000) :
    Sat cx.P cx.gl 68 [(true, plC p), (true, ptC q)] (.own 1 (.view (strs (voided p.tests q.2)))) := by
  have hn1 : (p.tests.map tsC).length = p.tests.length := by simp
  refine sF f68 ?_
  (try (refine tG ?_; try exact True.intro))
  refine loop_ind (ι := Nat) (fun i => i ≤ p.tests.length) (fun i => p.tests.length - i) (fun i => ⟨[(3, pP 0), (5, pP 1), (10, some (.val (false, [.st (.view (p.tests.map tsC))]))), (11, vI p.tests.length), (12, vI i)], [(0, some (.box 92 [.st (T q.1), .st (.view (strs q.2))])), (1, some (.box 23 [.own 2])), (2, some (.row true 1 (.view (strs (voided (p.tests.take i) q.2)))))], 3⟩) 0
    (Sub.trans (nilb_sub 6 0 1 (.view []) (T := 23) (cs := [.nil]) (by decide) rfl rfl rfl rfl) (canon_auto (by rw [← hn1]; kernel_rfl))) (Nat.zero_le _) ?_
  intro i hi
  by_cases hlt : i < p.tests.length
  · have he := kinds_eq hlt
    have hvt := voided_take (voids := q.2) hlt
    have hvl := voided_len (p.tests.take i) q.2
    have hnn := hn i hlt
    have hlt2 : (p.tests.take i).length = i := by simp; omega
    have hc := contains_sat q.2 (p.tests.getD i ts0).name (by omega)
    unfold voidS at hvt
    generalize voided (p.tests.take i) q.2 = out at *
    generalize p.tests.getD i ts0 = t at *
    rcases t with ⟨nm, kd, nd, ru, lo, hi'⟩
    have he : (p.tests.map tsC)[i]? = some [T nm, J kd, .view (strs nd), T ru, J lo, J hi'] := he
    dsimp only at hvt hnn hc
    have hol : (strs out).length = out.length := by simp
    by_cases h1 : ∃ n ∈ nd, n ∈ out
    · rw [if_pos (.inr h1)] at hvt
      repeat ((first | (refine kO 7 rfl ?_; first | refine rGH (fun _ z => ⟨_, _, _, contF_t (t := 23) h1 (by omega) (by omega) rfl rfl, z⟩) ?_) | refine tC ?_ | exact True.intro); (try conv => whnf))
      repeat' ((first | refine tG ?_ | exact True.intro | refine brp (fun h => ?_) fun h => ?_ | refine opsA_ifp rfl rfl rfl (fun h => ?_) fun h => ?_ | refine opsA_unlessp rfl rfl rfl (fun h => ?_) fun h => ?_) <;> (try conv => whnf))
      all_goals first | (exfalso; omega) | exact ⟨i + 1, hlt, by omega, canon_auto (by rw [hvt, strs_snocN]; kernel_rfl)⟩
    · by_cases h2 : nm ∈ q.2
      · rw [if_pos (.inl h2)] at hvt
        rw [decide_eq_true h2] at hc
        repeat ((first | (refine kO 7 rfl ?_; first | refine rGH (fun _ z => ⟨_, _, _, contF_f (t := 23) h1 (by omega) (by omega) rfl rfl, z⟩) ?_) | refine tC ?_ | exact True.intro); (try conv => whnf))
        repeat' ((first | (refine kO 7 rfl ?_; first | refine rG (fun _ z => ⟨_, hc, z⟩) ?_) | refine tG ?_ | exact True.intro | refine brp (fun h => ?_) fun h => ?_ | refine opsA_ifp rfl rfl rfl (fun h => ?_) fun h => ?_ | refine opsA_unlessp rfl rfl rfl (fun h => ?_) fun h => ?_) <;> (try conv => whnf))
        all_goals first | (exfalso; omega) | exact ⟨i + 1, hlt, by omega, canon_auto (by rw [hvt, strs_snocN]; kernel_rfl)⟩
      · rw [if_neg (by rintro (h | h); exact h2 h; exact h1 h)] at hvt
        rw [decide_eq_false h2] at hc
        repeat ((first | (refine kO 7 rfl ?_; first | refine rGH (fun _ z => ⟨_, _, _, contF_f (t := 23) h1 (by omega) (by omega) rfl rfl, z⟩) ?_) | refine tC ?_ | exact True.intro); (try conv => whnf))
        repeat' ((first | (refine kO 7 rfl ?_; first | refine rG (fun _ z => ⟨_, hc, z⟩) ?_) | refine tG ?_ | exact True.intro | refine brp (fun h => ?_) fun h => ?_ | refine opsA_ifp rfl rfl rfl (fun h => ?_) fun h => ?_ | refine opsA_unlessp rfl rfl rfl (fun h => ?_) fun h => ?_) <;> (try conv => whnf))
        all_goals first | (exfalso; omega) | exact ⟨i + 1, hlt, by omega, canon_auto (by rw [hvt]; kernel_rfl)⟩
  · obtain rfl : i = p.tests.length := by omega
    rw [List.take_of_length_le (Nat.le_refl _)]
    repeat' ((first | refine tG ?_ | exact True.intro | refine brp (fun h => ?_) fun h => ?_ | refine opsA_ifp rfl rfl rfl (fun h => ?_) fun h => ?_ | refine opsA_unlessp rfl rfl rfl (fun h => ?_) fun h => ?_) <;> (try conv => whnf))
    all_goals first | (exfalso; omega) | rfl
end Go.Proofs.Tryz
namespace Go.Proofs.Tryz
open Go.Fw Go.IntWalk Go.Plain
set_option maxRecDepth 100000
set_option maxHeartbeats 8000000
structure Small (p : Pl) : Prop where
  pe : p.people.length ≤ 1000
  ga : p.gates.length ≤ 1000
  te : p.tests.length ≤ 1000
  pa : p.parts.length ≤ 1000
  pn : ∀ i < p.people.length, (p.people.getD i ([], 0)).1.length ≤ 1000
  gn : ∀ i < p.gates.length, (p.gates.getD i []).length ≤ 1000
  tn : ∀ i < p.tests.length, (p.tests.getD i ts0).name.length ≤ 1000
  td : ∀ i < p.tests.length, (p.tests.getD i ts0).needs.length ≤ 1000
  tr : ∀ i < p.tests.length, (p.tests.getD i ts0).rules.length ≤ 10000
  qn : ∀ i < p.parts.length, (p.parts.getD i ([], [])).1.length ≤ 1000
  qv : ∀ i < p.parts.length, (p.parts.getD i ([], [])).2.length ≤ 1000
abbrev PlR (p : Pl) : SV := (false, [.ref (plC p)])
abbrev two (r : Int × Int) : List SV := [I r.1, I r.2]
theorem fs2b (a b : Int) : fs [a, b] = orE a b := by unfold orE; by_cases h : a = 0 <;> by_cases h' : b = 0 <;> simp [fs, h, h']
theorem fst_2 (a b : Int) : Sat cx.P cx.gl 40 [(false, [.ints [a, b]])] (.one (I (fs [a, b]))) := rFirst_sat [a, b] (Nat.le_of_ble_eq_true rfl)
section
variable {p : Pl}
theorem cp1_sat : Sat cx.P cx.gl 39 [PlR p] (.tup (two (0, cntE p.people.length 8))) := by
  have hn : (p.people.map peC).length = p.people.length := by simp
  refine sF f39 ?_
  repeat' ((first | (refine kO 7 rfl ?_; first | refine rG (fun _ z => ⟨_, rUnless_b _ _, z⟩) ?_ | refine rG (fun _ z => ⟨_, fst_2 _ _, z⟩) ?_) | refine tG ?_ | exact True.intro | refine brp (fun h => ?_) fun h => ?_ | refine opsA_ifp rfl rfl rfl (fun h => ?_) fun h => ?_ | refine opsA_unlessp rfl rfl rfl (fun h => ?_) fun h => ?_) <;> (try conv => whnf))
  refine congrArg Res.tup (congrArg (List.cons (I 0)) (congrArg (fun n => [I n]) ?_))
  rw [fs2b]
  unfold cntE orE
  rw [hn]
  by_cases h1 : 0 < p.people.length
  · by_cases h2 : p.people.length ≤ 8 <;> simp [h1, h2] <;> omega
  · simp [h1] <;> omega
theorem cp3_sat : Sat cx.P cx.gl 47 [PlR p] (.tup (two (0, cntE p.gates.length 4))) := by
  have hn : (strs p.gates).length = p.gates.length := by simp
  refine sF f47 ?_
  repeat' ((first | (refine kO 7 rfl ?_; first | refine rG (fun _ z => ⟨_, rUnless_b _ _, z⟩) ?_ | refine rG (fun _ z => ⟨_, fst_2 _ _, z⟩) ?_) | refine tG ?_ | exact True.intro | refine brp (fun h => ?_) fun h => ?_ | refine opsA_ifp rfl rfl rfl (fun h => ?_) fun h => ?_ | refine opsA_unlessp rfl rfl rfl (fun h => ?_) fun h => ?_) <;> (try conv => whnf))
  refine congrArg Res.tup (congrArg (List.cons (I 0)) (congrArg (fun n => [I n]) ?_))
  rw [fs2b]
  unfold cntE orE
  rw [hn]
  by_cases h1 : 0 < p.gates.length
  · by_cases h2 : p.gates.length ≤ 4 <;> simp [h1, h2] <;> omega
  · simp [h1] <;> omega
theorem cp5_sat : Sat cx.P cx.gl 52 [PlR p] (.tup (two (0, mostE p.tests.length 8))) := by
  have hn : (p.tests.map tsC).length = p.tests.length := by simp
  refine sF f52 ?_
  repeat' ((first | (refine kO 7 rfl ?_; first | refine rG (fun _ z => ⟨_, rUnless_b _ _, z⟩) ?_) | refine tG ?_ | exact True.intro | refine brp (fun h => ?_) fun h => ?_ | refine opsA_ifp rfl rfl rfl (fun h => ?_) fun h => ?_ | refine opsA_unlessp rfl rfl rfl (fun h => ?_) fun h => ?_) <;> (try conv => whnf))
  refine congrArg Res.tup (congrArg (List.cons (I 0)) (congrArg (fun n => [I n]) ?_))
  unfold mostE
  rw [hn]
  by_cases h2 : p.tests.length ≤ 8 <;> simp [h2] <;> omega
theorem cp7_sat : Sat cx.P cx.gl 58 [PlR p] (.tup (two (0, mostE p.parts.length 6))) := by
  have hn : (p.parts.map ptC).length = p.parts.length := by simp
  refine sF f58 ?_
  repeat' ((first | (refine kO 7 rfl ?_; first | refine rG (fun _ z => ⟨_, rUnless_b _ _, z⟩) ?_) | refine tG ?_ | exact True.intro | refine brp (fun h => ?_) fun h => ?_ | refine opsA_ifp rfl rfl rfl (fun h => ?_) fun h => ?_ | refine opsA_unlessp rfl rfl rfl (fun h => ?_) fun h => ?_) <;> (try conv => whnf))
  refine congrArg Res.tup (congrArg (List.cons (I 0)) (congrArg (fun n => [I n]) ?_))
  unfold mostE
  rw [hn]
  by_cases h2 : p.parts.length ≤ 6 <;> simp [h2] <;> omega
theorem cp9_sat : Sat cx.P cx.gl 65 [PlR p] (.tup (two (0, if (0 ≤ p.shock ∧ p.shock ≤ 1000) ∧ 0 ≤ p.life ∧ p.life ≤ 1000000000000 then 0 else 2))) := by
  refine sF f65 ?_
  repeat' ((first | (refine kO 7 rfl ?_; first | refine rG (fun _ z => ⟨_, rWithin_sat _ _ _, z⟩) ?_ | refine rG (fun _ z => ⟨_, rUnless_b _ _, z⟩) ?_) | refine tG ?_ | exact True.intro | refine brp (fun h => ?_) fun h => ?_ | refine opsA_ifp rfl rfl rfl (fun h => ?_) fun h => ?_ | refine opsA_unlessp rfl rfl rfl (fun h => ?_) fun h => ?_) <;> (try conv => whnf))
  all_goals (refine congrArg Res.tup (congrArg (List.cons (I 0)) (congrArg (fun n => [I n]) ?_)); first | (simp_all; done) | (simp; omega))
theorem cp21_sat (i : Nat) (hi : i < p.people.length) : Sat cx.P cx.gl 45 [I i, PlR p] (.one (I (if 0 ≤ (p.people.getD i ([], 0)).2 ∧ (p.people.getD i ([], 0)).2 ≤ 3 then 0 else 15))) := by
  have he := map_at (f := peC) hi ([], 0)
  have hn : (p.people.map peC).length = p.people.length := by simp
  generalize p.people.getD i ([], 0) = x at *
  refine sF f45 ?_
  repeat' ((first | (refine kO 7 rfl ?_; first | refine rG (fun _ z => ⟨_, rWithin_sat _ _ _, z⟩) ?_ | refine rG (fun _ z => ⟨_, rUnless_b _ _, z⟩) ?_) | refine tG ?_ | exact True.intro | refine brp (fun h => ?_) fun h => ?_ | refine opsA_ifp rfl rfl rfl (fun h => ?_) fun h => ?_ | refine opsA_unlessp rfl rfl rfl (fun h => ?_) fun h => ?_) <;> (try conv => whnf))
  exact resI (by by_cases h : 0 ≤ x.2 ∧ x.2 ≤ 3 <;> simp_all)
end
section
variable {p : Pl} (hs : Small p)
include hs
theorem cp61_sat (i : Nat) (hi : i < p.tests.length) : Sat cx.P cx.gl 56 [I i, PlR p] (.one (I (tsE reF p.tests i))) := by
  have ht := testErr_sat p.tests i hs.te hi (hs.td i hi) (hs.tr i hi)
  refine sF f56 ?_
  repeat ((first | (refine kO 7 rfl ?_; first | refine rG (fun _ z => ⟨_, ht, z⟩) ?_) | refine tG ?_ | exact True.intro); (try conv => whnf))
  (first | done | rfl | exact True.intro)
theorem cp81_sat (i : Nat) (hi : i < p.parts.length) : Sat cx.P cx.gl 62 [I i, PlR p] (.one (I (among (p.parts.getD i ([], [])).2 (tnm p.tests)))) := by
  have he := map_at (f := ptC) hi ([], [])
  have hn : (p.parts.map ptC).length = p.parts.length := by simp
  have ht := testsOf_sat p.tests hs.te
  have ha := among_sat (p.parts.getD i ([], [])).2 (tnm p.tests) (hs.qv i hi) (by simp [tnm]; exact hs.te)
  refine sF f62 ?_
  repeat ((first | (refine kO 7 rfl ?_; first | refine rG (fun _ z => ⟨_, ht, z⟩) ?_ | refine rG (fun _ z => ⟨_, ha, z⟩) ?_) | refine tG ?_ | exact True.intro); (try conv => whnf))
  (first | done | rfl | exact True.intro)
theorem cp2_sat : Sat cx.P cx.gl 42 [PlR p] (.tup (two (scanA p.peopleE p.people.length))) := by
  have h := namedP_sat p hs.pe hs.pn fun i hi => cp21_sat i hi
  refine sF f42 ?_
  repeat ((first | (refine kO 7 rfl ?_; first | refine rG (fun _ z => ⟨_, h, z⟩) ?_) | refine tG ?_ | exact True.intro); (try conv => whnf))
  (first | done | rfl | exact True.intro)
theorem cp4_sat : Sat cx.P cx.gl 48 [PlR p] (.tup (two (scanA (nmAt p.gates) p.gates.length))) := by
  have h := namedG_sat p hs.ga hs.gn fun i hi => chkG_sat i
  have e : p.gateE = nmAt p.gates := by
    funext i; unfold Pl.gateE orE; by_cases h : nmAt p.gates i = 0 <;> simp [h]
  rw [e] at h
  refine sF f48 ?_
  repeat ((first | (refine kO 7 rfl ?_; first | refine rG (fun _ z => ⟨_, h, z⟩) ?_) | refine tG ?_ | exact True.intro); (try conv => whnf))
  (first | done | rfl | exact True.intro)
theorem cp6_sat : Sat cx.P cx.gl 53 [PlR p] (.tup (two (scanA (p.testE reF) p.tests.length))) := by
  have h := namedT_sat p reF hs.te hs.tn fun i hi => cp61_sat hs i hi
  refine sF f53 ?_
  repeat ((first | (refine kO 7 rfl ?_; first | refine rG (fun _ z => ⟨_, h, z⟩) ?_) | refine tG ?_ | exact True.intro); (try conv => whnf))
  (first | done | rfl | exact True.intro)
theorem cp8_sat : Sat cx.P cx.gl 59 [PlR p] (.tup (two (scanA p.partE p.parts.length))) := by
  have h := namedQ_sat p hs.pa hs.qn fun i hi => cp81_sat hs i hi
  refine sF f59 ?_
  repeat ((first | (refine kO 7 rfl ?_; first | refine rG (fun _ z => ⟨_, h, z⟩) ?_) | refine tG ?_ | exact True.intro); (try conv => whnf))
  (first | done | rfl | exact True.intro)
end
end Go.Proofs.Tryz
namespace Go.Proofs.Tryz
open Go.Fw Go.IntWalk Go.Plain
set_option maxRecDepth 100000
set_option maxHeartbeats 8000000
def firstP : List (Int × Int) → Int × Int
  | [] => (0, 0)
  | r :: l => orP r (firstP l)
theorem firstP_at : ∀ {l : List (Int × Int)} {i : Nat}, i < l.length → (∀ j < i, (l.getD j (0, 0)).2 = 0) → (l.getD i (0, 0)).2 ≠ 0 → firstP l = l.getD i (0, 0)
  | [], i, h, _, _ => by simp at h
  | r :: l, 0, _, _, h => by unfold firstP orP; exact if_pos h
  | r :: l, i + 1, h, h0, h1 => by
    unfold firstP orP
    rw [if_neg (by simpa using h0 0 (by omega)), firstP_at (i := i) (by simpa using h) (fun j hj => by simpa using h0 (j + 1) (by omega)) (by simpa using h1)]
    simp
theorem firstP_no : ∀ {l : List (Int × Int)}, (∀ j < l.length, (l.getD j (0, 0)).2 = 0) → firstP l = (0, 0)
  | [], _ => rfl
  | r :: l, h => by
    unfold firstP orP
    rw [if_neg (by simpa using h 0 (by simp)), firstP_no fun j hj => by simpa using h (j + 1) (by simpa using hj)]
noncomputable def nine (p : Pl) : List (Int × Int) := [(0, cntE p.people.length 8), scanA p.peopleE p.people.length, (0, cntE p.gates.length 4), scanA (nmAt p.gates) p.gates.length, (0, mostE p.tests.length 8), scanA (p.testE reF) p.tests.length, (0, mostE p.parts.length 6), scanA p.partE p.parts.length,
  (0, if (0 ≤ p.shock ∧ p.shock ≤ 1000) ∧ 0 ≤ p.life ∧ p.life ≤ 1000000000000 then 0 else 2)]
theorem err_nine (p : Pl) : p.err reF = firstP (nine p) := by
  unfold Pl.err nine firstP firstP firstP firstP firstP firstP firstP firstP firstP firstP
  have : ∀ x : Int, orP (0, x) (0, 0) = (0, x) := fun x => by unfold orP; by_cases h : x = 0 <;> simp [h]
  rw [this]
abbrev cps : List Nat := [39, 42, 47, 48, 52, 53, 58, 59, 65]
set_option maxRecDepth 100000 in
theorem checkPlant_sat {p : Pl} (hs : Small p) : Sat cx.P cx.gl 8 [(true, plC p)] (.tup (two (p.err reF))) := by
  have g0 := cp1_sat (p := p)
  have g1 := cp2_sat hs
  have g2 := cp3_sat (p := p)
  have g3 := cp4_sat hs
  have g4 := cp5_sat (p := p)
  have g5 := cp6_sat hs
  have g6 := cp7_sat (p := p)
  have g7 := cp8_sat hs
  have g8 := cp9_sat (p := p)
  rw [err_nine]
  have hret := fun i h1 h2 h3 => firstP_at (l := nine p) (i := i) h1 h2 h3
  have hno := firstP_no (l := nine p)
  have hn0 : (nine p).getD 0 (0, 0) = (0, cntE p.people.length 8) := rfl
  have hn1 : (nine p).getD 1 (0, 0) = scanA p.peopleE p.people.length := rfl
  have hn2 : (nine p).getD 2 (0, 0) = (0, cntE p.gates.length 4) := rfl
  have hn3 : (nine p).getD 3 (0, 0) = scanA (nmAt p.gates) p.gates.length := rfl
  have hn4 : (nine p).getD 4 (0, 0) = (0, mostE p.tests.length 8) := rfl
  have hn5 : (nine p).getD 5 (0, 0) = scanA (p.testE reF) p.tests.length := rfl
  have hn6 : (nine p).getD 6 (0, 0) = (0, mostE p.parts.length 6) := rfl
  have hn7 : (nine p).getD 7 (0, 0) = scanA p.partE p.parts.length := rfl
  have hn8 : (nine p).getD 8 (0, 0) = (0, if (0 ≤ p.shock ∧ p.shock ≤ 1000) ∧ 0 ≤ p.life ∧ p.life ≤ 1000000000000 then 0 else 2) := rfl
  have hl9 : (nine p).length = 9 := rfl
  rw [← hn0] at g0
  rw [← hn1] at g1
  rw [← hn2] at g2
  rw [← hn3] at g3
  rw [← hn4] at g4
  rw [← hn5] at g5
  rw [← hn6] at g6
  rw [← hn7] at g7
  rw [← hn8] at g8
  clear hn0 hn1 hn2 hn3 hn4 hn5 hn6 hn7 hn8
  generalize nine p = L at *
  have g0 : Sat cx.P cx.gl 39 [(false, [.ref (plC p)])] (.tup [I (L.getD 0 (0, 0)).1, I (L.getD 0 (0, 0)).2]) := g0
  have g1 : Sat cx.P cx.gl 42 [(false, [.ref (plC p)])] (.tup [I (L.getD 1 (0, 0)).1, I (L.getD 1 (0, 0)).2]) := g1
  have g2 : Sat cx.P cx.gl 47 [(false, [.ref (plC p)])] (.tup [I (L.getD 2 (0, 0)).1, I (L.getD 2 (0, 0)).2]) := g2
  have g3 : Sat cx.P cx.gl 48 [(false, [.ref (plC p)])] (.tup [I (L.getD 3 (0, 0)).1, I (L.getD 3 (0, 0)).2]) := g3
  have g4 : Sat cx.P cx.gl 52 [(false, [.ref (plC p)])] (.tup [I (L.getD 4 (0, 0)).1, I (L.getD 4 (0, 0)).2]) := g4
  have g5 : Sat cx.P cx.gl 53 [(false, [.ref (plC p)])] (.tup [I (L.getD 5 (0, 0)).1, I (L.getD 5 (0, 0)).2]) := g5
  have g6 : Sat cx.P cx.gl 58 [(false, [.ref (plC p)])] (.tup [I (L.getD 6 (0, 0)).1, I (L.getD 6 (0, 0)).2]) := g6
  have g7 : Sat cx.P cx.gl 59 [(false, [.ref (plC p)])] (.tup [I (L.getD 7 (0, 0)).1, I (L.getD 7 (0, 0)).2]) := g7
  have g8 : Sat cx.P cx.gl 65 [(false, [.ref (plC p)])] (.tup [I (L.getD 8 (0, 0)).1, I (L.getD 8 (0, 0)).2]) := g8
  clear hs
  refine sF f8 ?_
  refine aS ?_; (refine aR ?_; conv => whnf); (try (refine tR ?_; try exact True.intro))
  refine aS ?_
  refine aR ?_
  conv => whnf
  iterate 9 (refine oP rfl ?_ ; (conv => whnf); refine rP rfl (fun _ z => z) ?_ ; (conv => whnf))
  refine oP rfl ?_ ; (conv => whnf)
  refine rG (r := .val (true, [.st (.fn 39 [] [plC p]), .st (.fn 42 [] [plC p]), .st (.fn 47 [] [plC p]), .st (.fn 48 [] [plC p]), .st (.fn 52 [] [plC p]), .st (.fn 53 [] [plC p]), .st (.fn 58 [] [plC p]), .st (.fn 59 [] [plC p]), .st (.fn 65 [] [plC p])])) (u := []) (R := []) (fun K z => cast (by kernel_rfl) z) ?_
  conv => whnf
  (try (refine tG ?_; try exact True.intro))
  refine loop_ind (ι := Nat) (fun i => i ≤ 9 ∧ ∀ j < i, (L.getD j (0, 0)).2 = 0) (fun i => 9 - i) (fun i => ⟨[(19, some (.val (true, cps.map fun f => .st (.fn f [] [plC p])))), (20, vI i)], [], 0⟩) 0 cA ⟨Nat.zero_le _, fun j hj => by omega⟩ ?_
  rintro i ⟨hi, hp⟩
  generalize plC p = P at *
  have hnx := fun (h : (L.getD i (0, 0)).2 = 0) => all_succ (f := fun j => (L.getD j (0, 0)).2) hp h
  have hret := fun h1 h2 => hret i h1 hp h2
  rcases (show i = 0 ∨ i = 1 ∨ i = 2 ∨ i = 3 ∨ i = 4 ∨ i = 5 ∨ i = 6 ∨ i = 7 ∨ i = 8 ∨ i = 9 by omega) with rfl | rfl | rfl | rfl | rfl | rfl | rfl | rfl | rfl | rfl
  · generalize L.getD 0 (0, 0) = r at *
    by_cases h : r.2 = 0
    · rw [h] at g0
      repeat' ((first | (refine kO 7 rfl ?_; first | refine rG (fun _ z => ⟨_, g0, z⟩) ?_) | refine tG ?_ | exact True.intro | refine brp (fun h => ?_) fun h => ?_ | refine opsA_ifp rfl rfl rfl (fun h => ?_) fun h => ?_ | refine opsA_unlessp rfl rfl rfl (fun h => ?_) fun h => ?_) <;> (try conv => whnf))
      all_goals first | (exfalso; omega) | (exact absurd rfl h) | exact ⟨0 + 1, ⟨by omega, hnx h⟩, by omega, cA⟩
    · rw [hret (by omega) h]
      repeat' ((first | (refine kO 7 rfl ?_; first | refine rG (fun _ z => ⟨_, g0, z⟩) ?_) | refine tG ?_ | exact True.intro | refine brp (fun h => ?_) fun h => ?_ | refine opsA_ifp rfl rfl rfl (fun h => ?_) fun h => ?_ | refine opsA_unlessp rfl rfl rfl (fun h => ?_) fun h => ?_) <;> (try conv => whnf))
      all_goals first | (exfalso; omega) | rfl
  · generalize L.getD 1 (0, 0) = r at *
    by_cases h : r.2 = 0
    · rw [h] at g1
      repeat' ((first | (refine kO 7 rfl ?_; first | refine rG (fun _ z => ⟨_, g1, z⟩) ?_) | refine tG ?_ | exact True.intro | refine brp (fun h => ?_) fun h => ?_ | refine opsA_ifp rfl rfl rfl (fun h => ?_) fun h => ?_ | refine opsA_unlessp rfl rfl rfl (fun h => ?_) fun h => ?_) <;> (try conv => whnf))
      all_goals first | (exfalso; omega) | (exact absurd rfl h) | exact ⟨1 + 1, ⟨by omega, hnx h⟩, by omega, cA⟩
    · rw [hret (by omega) h]
      repeat' ((first | (refine kO 7 rfl ?_; first | refine rG (fun _ z => ⟨_, g1, z⟩) ?_) | refine tG ?_ | exact True.intro | refine brp (fun h => ?_) fun h => ?_ | refine opsA_ifp rfl rfl rfl (fun h => ?_) fun h => ?_ | refine opsA_unlessp rfl rfl rfl (fun h => ?_) fun h => ?_) <;> (try conv => whnf))
      all_goals first | (exfalso; omega) | rfl
  · generalize L.getD 2 (0, 0) = r at *
    by_cases h : r.2 = 0
    · rw [h] at g2
      repeat' ((first | (refine kO 7 rfl ?_; first | refine rG (fun _ z => ⟨_, g2, z⟩) ?_) | refine tG ?_ | exact True.intro | refine brp (fun h => ?_) fun h => ?_ | refine opsA_ifp rfl rfl rfl (fun h => ?_) fun h => ?_ | refine opsA_unlessp rfl rfl rfl (fun h => ?_) fun h => ?_) <;> (try conv => whnf))
      all_goals first | (exfalso; omega) | (exact absurd rfl h) | exact ⟨2 + 1, ⟨by omega, hnx h⟩, by omega, cA⟩
    · rw [hret (by omega) h]
      repeat' ((first | (refine kO 7 rfl ?_; first | refine rG (fun _ z => ⟨_, g2, z⟩) ?_) | refine tG ?_ | exact True.intro | refine brp (fun h => ?_) fun h => ?_ | refine opsA_ifp rfl rfl rfl (fun h => ?_) fun h => ?_ | refine opsA_unlessp rfl rfl rfl (fun h => ?_) fun h => ?_) <;> (try conv => whnf))
      all_goals first | (exfalso; omega) | rfl
  · generalize L.getD 3 (0, 0) = r at *
    by_cases h : r.2 = 0
    · rw [h] at g3
      repeat' ((first | (refine kO 7 rfl ?_; first | refine rG (fun _ z => ⟨_, g3, z⟩) ?_) | refine tG ?_ | exact True.intro | refine brp (fun h => ?_) fun h => ?_ | refine opsA_ifp rfl rfl rfl (fun h => ?_) fun h => ?_ | refine opsA_unlessp rfl rfl rfl (fun h => ?_) fun h => ?_) <;> (try conv => whnf))
      all_goals first | (exfalso; omega) | (exact absurd rfl h) | exact ⟨3 + 1, ⟨by omega, hnx h⟩, by omega, cA⟩
    · rw [hret (by omega) h]
      repeat' ((first | (refine kO 7 rfl ?_; first | refine rG (fun _ z => ⟨_, g3, z⟩) ?_) | refine tG ?_ | exact True.intro | refine brp (fun h => ?_) fun h => ?_ | refine opsA_ifp rfl rfl rfl (fun h => ?_) fun h => ?_ | refine opsA_unlessp rfl rfl rfl (fun h => ?_) fun h => ?_) <;> (try conv => whnf))
      all_goals first | (exfalso; omega) | rfl
  · generalize L.getD 4 (0, 0) = r at *
    by_cases h : r.2 = 0
    · rw [h] at g4
      repeat' ((first | (refine kO 7 rfl ?_; first | refine rG (fun _ z => ⟨_, g4, z⟩) ?_) | refine tG ?_ | exact True.intro | refine brp (fun h => ?_) fun h => ?_ | refine opsA_ifp rfl rfl rfl (fun h => ?_) fun h => ?_ | refine opsA_unlessp rfl rfl rfl (fun h => ?_) fun h => ?_) <;> (try conv => whnf))
      all_goals first | (exfalso; omega) | (exact absurd rfl h) | exact ⟨4 + 1, ⟨by omega, hnx h⟩, by omega, cA⟩
    · rw [hret (by omega) h]
      repeat' ((first | (refine kO 7 rfl ?_; first | refine rG (fun _ z => ⟨_, g4, z⟩) ?_) | refine tG ?_ | exact True.intro | refine brp (fun h => ?_) fun h => ?_ | refine opsA_ifp rfl rfl rfl (fun h => ?_) fun h => ?_ | refine opsA_unlessp rfl rfl rfl (fun h => ?_) fun h => ?_) <;> (try conv => whnf))
      all_goals first | (exfalso; omega) | rfl
  · generalize L.getD 5 (0, 0) = r at *
    by_cases h : r.2 = 0
    · rw [h] at g5
      repeat' ((first | (refine kO 7 rfl ?_; first | refine rG (fun _ z => ⟨_, g5, z⟩) ?_) | refine tG ?_ | exact True.intro | refine brp (fun h => ?_) fun h => ?_ | refine opsA_ifp rfl rfl rfl (fun h => ?_) fun h => ?_ | refine opsA_unlessp rfl rfl rfl (fun h => ?_) fun h => ?_) <;> (try conv => whnf))
      all_goals first | (exfalso; omega) | (exact absurd rfl h) | exact ⟨5 + 1, ⟨by omega, hnx h⟩, by omega, cA⟩
    · rw [hret (by omega) h]
      repeat' ((first | (refine kO 7 rfl ?_; first | refine rG (fun _ z => ⟨_, g5, z⟩) ?_) | refine tG ?_ | exact True.intro | refine brp (fun h => ?_) fun h => ?_ | refine opsA_ifp rfl rfl rfl (fun h => ?_) fun h => ?_ | refine opsA_unlessp rfl rfl rfl (fun h => ?_) fun h => ?_) <;> (try conv => whnf))
      all_goals first | (exfalso; omega) | rfl
  · generalize L.getD 6 (0, 0) = r at *
    by_cases h : r.2 = 0
    · rw [h] at g6
      repeat' ((first | (refine kO 7 rfl ?_; first | refine rG (fun _ z => ⟨_, g6, z⟩) ?_) | refine tG ?_ | exact True.intro | refine brp (fun h => ?_) fun h => ?_ | refine opsA_ifp rfl rfl rfl (fun h => ?_) fun h => ?_ | refine opsA_unlessp rfl rfl rfl (fun h => ?_) fun h => ?_) <;> (try conv => whnf))
      all_goals first | (exfalso; omega) | (exact absurd rfl h) | exact ⟨6 + 1, ⟨by omega, hnx h⟩, by omega, cA⟩
    · rw [hret (by omega) h]
      repeat' ((first | (refine kO 7 rfl ?_; first | refine rG (fun _ z => ⟨_, g6, z⟩) ?_) | refine tG ?_ | exact True.intro | refine brp (fun h => ?_) fun h => ?_ | refine opsA_ifp rfl rfl rfl (fun h => ?_) fun h => ?_ | refine opsA_unlessp rfl rfl rfl (fun h => ?_) fun h => ?_) <;> (try conv => whnf))
      all_goals first | (exfalso; omega) | rfl
  · generalize L.getD 7 (0, 0) = r at *
    by_cases h : r.2 = 0
    · rw [h] at g7
      repeat' ((first | (refine kO 7 rfl ?_; first | refine rG (fun _ z => ⟨_, g7, z⟩) ?_) | refine tG ?_ | exact True.intro | refine brp (fun h => ?_) fun h => ?_ | refine opsA_ifp rfl rfl rfl (fun h => ?_) fun h => ?_ | refine opsA_unlessp rfl rfl rfl (fun h => ?_) fun h => ?_) <;> (try conv => whnf))
      all_goals first | (exfalso; omega) | (exact absurd rfl h) | exact ⟨7 + 1, ⟨by omega, hnx h⟩, by omega, cA⟩
    · rw [hret (by omega) h]
      repeat' ((first | (refine kO 7 rfl ?_; first | refine rG (fun _ z => ⟨_, g7, z⟩) ?_) | refine tG ?_ | exact True.intro | refine brp (fun h => ?_) fun h => ?_ | refine opsA_ifp rfl rfl rfl (fun h => ?_) fun h => ?_ | refine opsA_unlessp rfl rfl rfl (fun h => ?_) fun h => ?_) <;> (try conv => whnf))
      all_goals first | (exfalso; omega) | rfl
  · generalize L.getD 8 (0, 0) = r at *
    by_cases h : r.2 = 0
    · rw [h] at g8
      repeat' ((first | (refine kO 7 rfl ?_; first | refine rG (fun _ z => ⟨_, g8, z⟩) ?_) | refine tG ?_ | exact True.intro | refine brp (fun h => ?_) fun h => ?_ | refine opsA_ifp rfl rfl rfl (fun h => ?_) fun h => ?_ | refine opsA_unlessp rfl rfl rfl (fun h => ?_) fun h => ?_) <;> (try conv => whnf))
      all_goals first | (exfalso; omega) | (exact absurd rfl h) | exact ⟨8 + 1, ⟨by omega, hnx h⟩, by omega, cA⟩
    · rw [hret (by omega) h]
      repeat' ((first | (refine kO 7 rfl ?_; first | refine rG (fun _ z => ⟨_, g8, z⟩) ?_) | refine tG ?_ | exact True.intro | refine brp (fun h => ?_) fun h => ?_ | refine opsA_ifp rfl rfl rfl (fun h => ?_) fun h => ?_ | refine opsA_unlessp rfl rfl rfl (fun h => ?_) fun h => ?_) <;> (try conv => whnf))
      all_goals first | (exfalso; omega) | rfl
  · rw [hno (by rw [hl9]; exact hp)]
    repeat' ((first | refine tG ?_ | exact True.intro | refine brp (fun h => ?_) fun h => ?_ | refine opsA_ifp rfl rfl rfl (fun h => ?_) fun h => ?_ | refine opsA_unlessp rfl rfl rfl (fun h => ?_) fun h => ?_) <;> (try conv => whnf))
    all_goals first | (exfalso; omega) | rfl
end Go.Proofs.Tryz
namespace Go.Proofs.Tryz
open Go.Fw Go.IntWalk Go.Plain
set_option maxRecDepth 100000
set_option maxHeartbeats 8000000
def vbR (p : Pl) (e : Int) (n : Str) : List Str × Int := if e ≠ 0 then ([], e) else if n ∈ p.qnames then (voided p.tests (partD p n).2, 0) else ([], 6)
theorem voidedBy_sat {p : Pl} (hs : Small p) (n : Str) : Sat cx.P cx.gl 10 [(true, plC p), SS n] (.tup [V1 (vbR p (p.err reF).2 n).1, I (vbR p (p.err reF).2 n).2]) := by
  have hc := checkPlant_sat hs
  have hc : Sat cx.P cx.gl 8 [(true, plC p)] (.tup [I (p.err reF).1, I (p.err reF).2]) := hc
  have hp := partOf_sat p n hs.pa
  generalize p.err reF = r at *
  by_cases h1 : r.2 = 0
  · have e1 : vbR p r.2 n = if n ∈ p.qnames then (voided p.tests (partD p n).2, 0) else ([], 6) := by unfold vbR; rw [if_neg (by simpa using h1)]
    rw [e1]
    rw [h1] at hc
    by_cases h2 : n ∈ p.qnames
    · rw [if_pos h2]
      rw [decide_eq_true h2] at hp
      have hq : (partD p n).2.length ≤ 1000 := by
        obtain ⟨k, hk, e⟩ := idx_in h2
        have hkl : k < p.parts.length := by simpa [Pl.qnames] using hk
        unfold partD; rw [if_pos h2, e, Int.toNat_natCast]; exact hs.qv k hkl
      have hv := voided_sat p (partD p n) hs.te hq hs.td
      generalize partD p n = q at *
      refine sF f10 ?_
      repeat' ((first | (refine kO 7 rfl ?_; first | refine rG (fun _ z => ⟨_, hc, z⟩) ?_ | refine rG (fun _ z => ⟨_, hp, z⟩) ?_ | refine rG (fun _ z => ⟨_, hv, z⟩) ?_) | refine tG ?_ | exact True.intro | refine brp (fun h => ?_) fun h => ?_ | refine opsA_ifp rfl rfl rfl (fun h => ?_) fun h => ?_ | refine opsA_unlessp rfl rfl rfl (fun h => ?_) fun h => ?_) <;> (try conv => whnf))
      all_goals first | (exfalso; omega) | rfl
    · rw [if_neg h2]
      rw [decide_eq_false h2] at hp
      refine sF f10 ?_
      repeat' ((first | (refine kO 7 rfl ?_; first | refine rG (fun _ z => ⟨_, hc, z⟩) ?_ | refine rG (fun _ z => ⟨_, hp, z⟩) ?_) | refine tG ?_ | exact True.intro | refine brp (fun h => ?_) fun h => ?_ | refine opsA_ifp rfl rfl rfl (fun h => ?_) fun h => ?_ | refine opsA_unlessp rfl rfl rfl (fun h => ?_) fun h => ?_) <;> (try conv => whnf))
      all_goals first | (exfalso; omega) | rfl
  · have e1 : vbR p r.2 n = ([], r.2) := by unfold vbR; rw [if_pos h1]
    rw [e1]
    refine sF f10 ?_
    repeat' ((first | (refine kO 7 rfl ?_; first | refine rG (fun _ z => ⟨_, hc, z⟩) ?_) | refine tG ?_ | exact True.intro | refine brp (fun h => ?_) fun h => ?_ | refine opsA_ifp rfl rfl rfl (fun h => ?_) fun h => ?_ | refine opsA_unlessp rfl rfl rfl (fun h => ?_) fun h => ?_) <;> (try conv => whnf))
    all_goals first | (exfalso; omega) | rfl
theorem refPartOf_sat (p : Pl) (n : Str) (hl : p.parts.length ≤ 1000) : Sat cx.P cx.gl 12 [(true, plC p), SS n] (.one (I (idxI p.qnames n))) := by
  have hn : (p.parts.map ptC).length = p.parts.length := by simp
  have hnl : p.qnames.length = p.parts.length := by simp [Pl.qnames]
  refine sF f12 ?_
  (try (refine tG ?_; try exact True.intro))
  refine loop_ind (ι := Nat) (fun i => i ≤ p.parts.length ∧ n ∉ p.qnames.take i) (fun i => p.parts.length - i) (fun i => ⟨[(1, lS n), (2, pP 0), (5, vI i)], [(0, some (.box 27 ((plC p).map .st)))], 1⟩) 0 cA ⟨Nat.zero_le _, by simp⟩ ?_
  rintro i ⟨hi, hno⟩
  by_cases hlt : i < p.parts.length
  · have he := map_at (f := ptC) hlt ([], [])
    have hg : p.qnames.getD i [] = (p.parts.getD i ([], [])).1 := by rw [getD_at hlt, getD_at (by omega)]; simp [Pl.qnames]
    have hhit := fun e => idxI_hit (l := p.qnames) (x := n) (i := i) (by omega) e hno
    have hms := mem_succ (l := p.qnames) (i := i) (x := n) (by omega)
    rw [hg] at hhit hms
    generalize p.parts.getD i ([], []) = x at *
    by_cases hx : x.1 = n
    · rw [hhit hx]
      repeat' ((first | refine tG ?_ | exact True.intro | refine brp (fun h => ?_) fun h => ?_ | refine opsA_ifp rfl rfl rfl (fun h => ?_) fun h => ?_ | refine opsA_unlessp rfl rfl rfl (fun h => ?_) fun h => ?_) <;> (try conv => whnf))
      all_goals first | (exfalso; omega) | (exact absurd hx h) | rfl
    · repeat' ((first | refine tG ?_ | exact True.intro | refine brp (fun h => ?_) fun h => ?_ | refine opsA_ifp rfl rfl rfl (fun h => ?_) fun h => ?_ | refine opsA_unlessp rfl rfl rfl (fun h => ?_) fun h => ?_) <;> (try conv => whnf))
      all_goals first | (exfalso; omega) | (exact absurd h hx) | exact ⟨i + 1, ⟨hlt, fun hm => (hms.1 hm).elim hno fun e => hx e.symm⟩, by omega, cA⟩
  · obtain rfl : i = p.parts.length := by omega
    rw [List.take_of_length_le (by omega)] at hno
    rw [idxI_no hno]
    repeat' ((first | refine tG ?_ | exact True.intro | refine brp (fun h => ?_) fun h => ?_ | refine opsA_ifp rfl rfl rfl (fun h => ?_) fun h => ?_ | refine opsA_unlessp rfl rfl rfl (fun h => ?_) fun h => ?_) <;> (try conv => whnf))
    all_goals first | (exfalso; omega) | rfl
theorem refTestOf_sat (p : Pl) (n : Str) (hl : p.tests.length ≤ 1000) : Sat cx.P cx.gl 100 [(true, plC p), SS n] (.one (I (idxI (tnm p.tests) n))) := by
  have hn : (p.tests.map tsC).length = p.tests.length := by simp
  have hnl : (tnm p.tests).length = p.tests.length := by simp [tnm]
  refine sF f100 ?_
  (try (refine tG ?_; try exact True.intro))
  refine loop_ind (ι := Nat) (fun i => i ≤ p.tests.length ∧ n ∉ (tnm p.tests).take i) (fun i => p.tests.length - i) (fun i => ⟨[(1, lS n), (2, pP 0), (5, vI i)], [(0, some (.box 27 ((plC p).map .st)))], 1⟩) 0 cA ⟨Nat.zero_le _, by simp⟩ ?_
  rintro i ⟨hi, hno⟩
  by_cases hlt : i < p.tests.length
  · have he := kinds_eq hlt
    have hg := tnm_get hlt
    have hhit := fun e => idxI_hit (l := tnm p.tests) (x := n) (i := i) (by omega) e hno
    have hms := mem_succ (l := tnm p.tests) (i := i) (x := n) (by omega)
    rw [hg] at hhit hms
    generalize p.tests.getD i ts0 = x at *
    by_cases hx : x.name = n
    · rw [hhit hx]
      repeat' ((first | refine tG ?_ | exact True.intro | refine brp (fun h => ?_) fun h => ?_ | refine opsA_ifp rfl rfl rfl (fun h => ?_) fun h => ?_ | refine opsA_unlessp rfl rfl rfl (fun h => ?_) fun h => ?_) <;> (try conv => whnf))
      all_goals first | (exfalso; omega) | (exact absurd hx h) | rfl
    · repeat' ((first | refine tG ?_ | exact True.intro | refine brp (fun h => ?_) fun h => ?_ | refine opsA_ifp rfl rfl rfl (fun h => ?_) fun h => ?_ | refine opsA_unlessp rfl rfl rfl (fun h => ?_) fun h => ?_) <;> (try conv => whnf))
      all_goals first | (exfalso; omega) | (exact absurd h hx) | exact ⟨i + 1, ⟨hlt, fun hm => (hms.1 hm).elim hno fun e => hx e.symm⟩, by omega, cA⟩
  · obtain rfl : i = p.tests.length := by omega
    rw [List.take_of_length_le (by omega)] at hno
    rw [idxI_no hno]
    repeat' ((first | refine tG ?_ | exact True.intro | refine brp (fun h => ?_) fun h => ?_ | refine opsA_ifp rfl rfl rfl (fun h => ?_) fun h => ?_ | refine opsA_unlessp rfl rfl rfl (fun h => ?_) fun h => ?_) <;> (try conv => whnf))
    all_goals first | (exfalso; omega) | rfl
theorem refNameErr_sat (l : List Str) (i : Nat) (hi : i < l.length) (hl : l.length ≤ 1000) (hs : (l.getD i []).length ≤ 1000) : Sat cx.P cx.gl 98 [V1 l, I i] (.one (I (nmAt l i))) := by
  have he := sA hi
  have hn : (strs l).length = l.length := by simp
  have h1 := bIsName_sat (l.getD i []) (by omega)
  have h2 := hasText_sat (l.take i) (l.getD i []) (by simp; omega)
  have htk : (strs l).take i = strs (l.take i) := by simp
  have hm : nmAt l i = orE (nmErr (l.getD i [])) (if l.getD i [] ∈ l.take i then 5 else 0) := rfl
  unfold nmErr orE at hm
  generalize l.getD i [] = s at *
  by_cases c1 : isNm s
  · rw [if_pos c1, if_neg (by decide)] at hm
    rw [decide_eq_true c1] at h1
    by_cases c2 : s ∈ l.take i
    · rw [if_pos c2] at hm
      rw [decide_eq_true c2] at h2
      rw [hm]
      refine sF f98 ?_
      repeat' ((first | (refine kO 7 rfl ?_; first | refine rG (fun _ z => ⟨_, h1, z⟩) ?_ | refine rG (fun _ z => ⟨_, h2, z⟩) ?_) | refine tG ?_ | exact True.intro | refine brp (fun h => ?_) fun h => ?_ | refine opsA_ifp rfl rfl rfl (fun h => ?_) fun h => ?_ | refine opsA_unlessp rfl rfl rfl (fun h => ?_) fun h => ?_) <;> (try conv => whnf))
      all_goals first | (exfalso; omega) | rfl
    · rw [if_neg c2] at hm
      rw [decide_eq_false c2] at h2
      rw [hm]
      refine sF f98 ?_
      repeat' ((first | (refine kO 7 rfl ?_; first | refine rG (fun _ z => ⟨_, h1, z⟩) ?_ | refine rG (fun _ z => ⟨_, h2, z⟩) ?_) | refine tG ?_ | exact True.intro | refine brp (fun h => ?_) fun h => ?_ | refine opsA_ifp rfl rfl rfl (fun h => ?_) fun h => ?_ | refine opsA_unlessp rfl rfl rfl (fun h => ?_) fun h => ?_) <;> (try conv => whnf))
      all_goals first | (exfalso; omega) | rfl
  · rw [if_neg c1, if_pos (by decide)] at hm
    rw [decide_eq_false c1] at h1
    rw [hm]
    refine sF f98 ?_
    repeat' ((first | (refine kO 7 rfl ?_; first | refine rG (fun _ z => ⟨_, h1, z⟩) ?_ | refine rG (fun _ z => ⟨_, h2, z⟩) ?_) | refine tG ?_ | exact True.intro | refine brp (fun h => ?_) fun h => ?_ | refine opsA_ifp rfl rfl rfl (fun h => ?_) fun h => ?_ | refine opsA_unlessp rfl rfl rfl (fun h => ?_) fun h => ?_) <;> (try conv => whnf))
    all_goals first | (exfalso; omega) | rfl
theorem nmAt_take {l : List Str} {i : Nat} (h : i < l.length) : nmAt (l.take (i + 1)) i = nmAt l i := by
  unfold nmAt
  rw [List.take_take, Nat.min_eq_left (by omega), show (l.take (i + 1)).getD i [] = l.getD i [] by simp [List.getD_eq_getElem?_getD, h]]
end Go.Proofs.Tryz
