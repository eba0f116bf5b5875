/- Parts of the proof, joined. -/

import Derived.Test.YtnbfdfmphbehoaaGreatDoorFe
import Derived.Test.YtnbfdfmphbehoaaGreatDoorWa
import Derived.Test.YtnbfdfmphbehoaaGreatDoorM
namespace Go.Proofs.Tryz
open Go.Fw Go.IntWalk Go.Plain
set_option maxRecDepth 100000
set_option maxHeartbeats 8000000
abbrev mid (n : Int) : Prop := -4611686018427387903 ≤ n ∧ n ≤ 4611686018427387903
theorem wWithin_p (n lo hi : Int) : Sat cx.P cx.gl 145 [I n, I lo, I hi] (.one (Bo (decide (lo ≤ n ∧ n ≤ hi)))) := by
  refine sF f145 ?_
  repeat' ((first | refine tG ?_ | exact True.intro | refine brp (fun h => ?_) fun h => ?_ | refine opsA_ifp rfl rfl rfl (fun h => ?_) fun h => ?_ | refine opsA_unlessp rfl rfl rfl (fun h => ?_) fun h => ?_) <;> (try conv => whnf))
  · exact res_bo (by simp [h])
  · exact res_bo (by simp [h])
theorem wUnless_p {b : Bool} {p : Prop} [BP b p] [Decidable p] (e : Int) : Sat cx.P cx.gl 144 [Bo b, I e] (.one (I (if p then 0 else e))) := by
  have h := wUnless_sat b e
  rwa [show (if b = true then (0 : Int) else e) = if p then 0 else e from by simp only [BP.iff (b := b)]] at h
theorem wFirst_fs (l : List Int) (hl : l.length ≤ 1000000) : Sat cx.P cx.gl 143 [(false, [.ints l])] (.one (I (fs l))) := by
  rw [← fs_find]; exact wFirst_sat l hl
theorem fs3 (a b c : Int) : fs [a, b, c] = if a ≠ 0 then a else if b ≠ 0 then b else c := by
  by_cases h : a = 0 <;> by_cases h' : b = 0 <;> by_cases h'' : c = 0 <;> simp [fs, h, h', h'']
end Go.Proofs.Tryz
namespace Go.Proofs.Tryz
open Go.Fw Go.IntWalk Go.Plain
set_option maxRecDepth 100000
set_option maxHeartbeats 8000000
abbrev Sp : Type := Int × Int × Int × Int
abbrev sp (q : Sp) : List SC := [J q.1, J q.2.1, J q.2.2.1, J q.2.2.2]
abbrev SpI (q : Sp) : Prop := inI q.1 ∧ inI q.2.1 ∧ inI q.2.2.1 ∧ inI q.2.2.2
abbrev Ru (e : Int) (q : Sp) (ch : List Sp) : SV := (true, [J e, J q.1, J q.2.1, J q.2.2.1, J q.2.2.2, .view (ch.map sp)])
theorem wIsLowest_sat (n d : Int) (hn : inI n) (hd : inI d) : Sat cx.P cx.gl 188 [F2 n d] (.one (Bo (decide (0 < d ∧ Int.gcd n d = 1)))) := by
  have := hd.2
  refine sF f188 ?_
  (try (refine tG ?_; try exact True.intro))
  ((first | refine brp (fun h => ?_) fun h => ?_ | refine opsA_ifp rfl rfl rfl (fun h => ?_) fun h => ?_ | refine opsA_unlessp rfl rfl rfl (fun h => ?_) fun h => ?_) <;> (try conv => whnf))
  · repeat ((first | (refine kO 7 rfl ?_; first | refine rG (fun _ z => ⟨_, wDivisor_sat n d hn ⟨by omega, by omega⟩ (fun _ => by omega), z⟩) ?_) | refine tG ?_ | exact True.intro); (try conv => whnf))
    exact res_bo (by rw [Bool.eq_iff_iff, beq_iff_eq, decide_eq_true_iff]; omega)
  · (try (refine tG ?_; try exact True.intro))
    exact res_bo (by rw [eq_comm, decide_eq_false_iff_not]; omega)
theorem isFactor_sat (n d : Int) : Sat cx.P cx.gl 190 [F2 n d] (.one (Bo (decide ((1 ≤ n ∧ n ≤ 1000) ∧ d ≤ 1000)))) := by
  refine sF f190 ?_
  repeat' ((first | (refine kO 7 rfl ?_; first | refine rG (fun _ z => ⟨_, wWithin_p _ _ _, z⟩) ?_) | refine tG ?_ | exact True.intro | refine brp (fun h => ?_) fun h => ?_ | refine opsA_ifp rfl rfl rfl (fun h => ?_) fun h => ?_ | refine opsA_unlessp rfl rfl rfl (fun h => ?_) fun h => ?_) <;> (try conv => whnf))
  · exact res_bo (by simp [h])
  · exact res_bo (by simp [h])
theorem wLess_sat (a b c d : Int) (h1 : mid (a * d)) (h2 : mid (c * b)) : Sat cx.P cx.gl 191 [F2 a b, F2 c d] (.one (Bo (decide (a * d < c * b)))) := by
  refine sF f191 ?_
  (try (refine tG ?_; try exact True.intro))
  (first | done | rfl | exact True.intro)
def facErr (q : Sp) : Int := if (0 < q.2.1 ∧ Int.gcd q.1 q.2.1 = 1) ∧ 0 < q.2.2.2 ∧ Int.gcd q.2.2.1 q.2.2.2 = 1 then (if ((1 ≤ q.1 ∧ q.1 ≤ 1000) ∧ q.2.1 ≤ 1000) ∧ (1 ≤ q.2.2.1 ∧ q.2.2.1 ≤ 1000) ∧ q.2.2.2 ≤ 1000 then (if q.2.2.1 * q.2.1 < q.1 * q.2.2.2 then 9 else 0) else 2) else 3
theorem fac_mid {a d : Int} (h1 : 1 ≤ a ∧ a ≤ 1000) (h2 : 0 < d ∧ d ≤ 1000) : mid (a * d) := by
  have h3 : 0 ≤ a * d := Int.mul_nonneg (by omega) (by omega)
  have h4 : a * d ≤ 1000 * 1000 := Int.mul_le_mul h1.2 h2.2 (by omega) (by omega)
  omega
theorem factorErr_sat (q : Sp) (hq : SpI q) : Sat cx.P cx.gl 146 [(true, sp q)] (.one (I (facErr q))) := by
  obtain ⟨a, b, c, d⟩ := q
  obtain ⟨ha, hb, hc, hd⟩ := hq
  simp only at ha hb hc hd
  change Sat cx.P cx.gl 146 [F4 a b c d] _
  unfold facErr
  simp only
  have l1 := wIsLowest_sat a b ha hb
  have l2 := wIsLowest_sat c d hc hd
  have f1 := isFactor_sat a b
  have f2 := isFactor_sat c d
  by_cases k1 : (0 < b ∧ Int.gcd a b = 1) ∧ 0 < d ∧ Int.gcd c d = 1
  · rw [if_pos k1]
    rw [decide_eq_true k1.1] at l1
    rw [decide_eq_true k1.2] at l2
    by_cases k2 : ((1 ≤ a ∧ a ≤ 1000) ∧ b ≤ 1000) ∧ (1 ≤ c ∧ c ≤ 1000) ∧ d ≤ 1000
    · rw [if_pos k2]
      rw [decide_eq_true k2.1] at f1
      rw [decide_eq_true k2.2] at f2
      have g := wLess_sat c d a b (fac_mid k2.2.1 ⟨k1.1.1, k2.1.2⟩) (fac_mid k2.1.1 ⟨k1.2.1, k2.2.2⟩)
      refine sF f146 ?_
      repeat ((first | (refine kO 7 rfl ?_; first | refine rG (fun _ z => ⟨_, l1, z⟩) ?_ | refine rG (fun _ z => ⟨_, l2, z⟩) ?_ | refine rG (fun _ z => ⟨_, f1, z⟩) ?_ | refine rG (fun _ z => ⟨_, f2, z⟩) ?_ | refine rG (fun _ z => ⟨_, wUnless_p _, z⟩) ?_ | refine rG (fun _ z => ⟨_, wFirst_fs _ (Nat.le_of_ble_eq_true rfl), z⟩) ?_ | refine rG (fun _ z => ⟨_, g, z⟩) ?_) | refine tG ?_ | exact True.intro); (try conv => whnf))
      exact res_i (by by_cases h : c * b < a * d <;> simp [h])
    · rw [if_neg k2]
      by_cases k3 : (1 ≤ a ∧ a ≤ 1000) ∧ b ≤ 1000
      · rw [decide_eq_true k3] at f1
        rw [decide_eq_false (show ¬ ((1 ≤ c ∧ c ≤ 1000) ∧ d ≤ 1000) from fun h => k2 ⟨k3, h⟩)] at f2
        refine sF f146 ?_
        repeat ((first | (refine kO 7 rfl ?_; first | refine rG (fun _ z => ⟨_, l1, z⟩) ?_ | refine rG (fun _ z => ⟨_, l2, z⟩) ?_ | refine rG (fun _ z => ⟨_, f1, z⟩) ?_ | refine rG (fun _ z => ⟨_, f2, z⟩) ?_ | refine rG (fun _ z => ⟨_, wUnless_p _, z⟩) ?_ | refine rG (fun _ z => ⟨_, wFirst_fs _ (Nat.le_of_ble_eq_true rfl), z⟩) ?_) | refine tG ?_ | exact True.intro); (try conv => whnf))
        (first | done | rfl | exact True.intro)
      · rw [decide_eq_false k3] at f1
        refine sF f146 ?_
        repeat ((first | (refine kO 7 rfl ?_; first | refine rG (fun _ z => ⟨_, l1, z⟩) ?_ | refine rG (fun _ z => ⟨_, l2, z⟩) ?_ | refine rG (fun _ z => ⟨_, f1, z⟩) ?_ | refine rG (fun _ z => ⟨_, wUnless_p _, z⟩) ?_ | refine rG (fun _ z => ⟨_, wFirst_fs _ (Nat.le_of_ble_eq_true rfl), z⟩) ?_) | refine tG ?_ | exact True.intro); (try conv => whnf))
        (first | done | rfl | exact True.intro)
  · rw [if_neg k1]
    by_cases k3 : 0 < b ∧ Int.gcd a b = 1
    · rw [decide_eq_true k3] at l1
      rw [decide_eq_false (show ¬ (0 < d ∧ Int.gcd c d = 1) from fun h => k1 ⟨k3, h⟩)] at l2
      refine sF f146 ?_
      repeat' ((first | (refine kO 7 rfl ?_; first | refine rG (fun _ z => ⟨_, l1, z⟩) ?_ | refine rG (fun _ z => ⟨_, l2, z⟩) ?_ | refine rG (fun _ z => ⟨_, f1, z⟩) ?_ | refine rG (fun _ z => ⟨_, f2, z⟩) ?_ | refine rG (fun _ z => ⟨_, wUnless_p _, z⟩) ?_ | refine rG (fun _ z => ⟨_, wFirst_fs _ (Nat.le_of_ble_eq_true rfl), z⟩) ?_) | refine tG ?_ | exact True.intro | refine brp (fun h => ?_) fun h => ?_ | refine opsA_ifp rfl rfl rfl (fun h => ?_) fun h => ?_ | refine opsA_unlessp rfl rfl rfl (fun h => ?_) fun h => ?_) <;> (try conv => whnf))
      all_goals (first | done | rfl | exact True.intro)
    · rw [decide_eq_false k3] at l1
      refine sF f146 ?_
      repeat' ((first | (refine kO 7 rfl ?_; first | refine rG (fun _ z => ⟨_, l1, z⟩) ?_ | refine rG (fun _ z => ⟨_, f1, z⟩) ?_ | refine rG (fun _ z => ⟨_, f2, z⟩) ?_ | refine rG (fun _ z => ⟨_, wUnless_p _, z⟩) ?_ | refine rG (fun _ z => ⟨_, wFirst_fs _ (Nat.le_of_ble_eq_true rfl), z⟩) ?_) | refine tG ?_ | exact True.intro | refine brp (fun h => ?_) fun h => ?_ | refine opsA_ifp rfl rfl rfl (fun h => ?_) fun h => ?_ | refine opsA_unlessp rfl rfl rfl (fun h => ?_) fun h => ?_) <;> (try conv => whnf))
      all_goals (first | done | rfl | exact True.intro)
theorem refFactorErr_sat (q : Sp) (hq : SpI q) : Sat cx.P cx.gl 194 [(true, sp q)] (.one (I (facErr q))) := by
  obtain ⟨a, b, c, d⟩ := q
  obtain ⟨ha, hb, hc, hd⟩ := hq
  simp only at ha hb hc hd
  change Sat cx.P cx.gl 194 [F4 a b c d] _
  unfold facErr
  simp only
  have l1 := isLowest_sat a b ha hb
  have l2 := isLowest_sat c d hc hd
  by_cases k1 : (0 < b ∧ Int.gcd a b = 1) ∧ 0 < d ∧ Int.gcd c d = 1
  · rw [if_pos k1]
    rw [decide_eq_true k1.1] at l1
    rw [decide_eq_true k1.2] at l2
    by_cases k2 : ((1 ≤ a ∧ a ≤ 1000) ∧ b ≤ 1000) ∧ (1 ≤ c ∧ c ≤ 1000) ∧ d ≤ 1000
    · rw [if_pos k2]
      have m1 := fac_mid k2.1.1 ⟨k1.2.1, k2.2.2⟩
      have m2 := fac_mid k2.2.1 ⟨k1.1.1, k2.1.2⟩
      have g := cmp_sat a b c d (by omega) (by omega)
      unfold cmpF at g
      by_cases k : c * b < a * d
      · rw [if_neg (by omega), if_pos k] at g
        rw [if_pos k]
        refine sF f194 ?_
        repeat ((first | (refine kO 7 rfl ?_; first | refine rG (fun _ z => ⟨_, l1, z⟩) ?_ | refine rG (fun _ z => ⟨_, l2, z⟩) ?_ | refine rG (fun _ z => ⟨_, within_p _ _ _, z⟩) ?_ | refine rG (fun _ z => ⟨_, g, z⟩) ?_) | refine tG ?_ | exact True.intro); (try conv => whnf))
        (first | done | rfl | exact True.intro)
      · rw [if_neg k]
        by_cases k' : a * d < c * b
        · rw [if_pos k'] at g
          refine sF f194 ?_
          repeat ((first | (refine kO 7 rfl ?_; first | refine rG (fun _ z => ⟨_, l1, z⟩) ?_ | refine rG (fun _ z => ⟨_, l2, z⟩) ?_ | refine rG (fun _ z => ⟨_, within_p _ _ _, z⟩) ?_ | refine rG (fun _ z => ⟨_, g, z⟩) ?_) | refine tG ?_ | exact True.intro); (try conv => whnf))
          (first | done | rfl | exact True.intro)
        · rw [if_neg k', if_neg k] at g
          refine sF f194 ?_
          repeat ((first | (refine kO 7 rfl ?_; first | refine rG (fun _ z => ⟨_, l1, z⟩) ?_ | refine rG (fun _ z => ⟨_, l2, z⟩) ?_ | refine rG (fun _ z => ⟨_, within_p _ _ _, z⟩) ?_ | refine rG (fun _ z => ⟨_, g, z⟩) ?_) | refine tG ?_ | exact True.intro); (try conv => whnf))
          (first | done | rfl | exact True.intro)
    · rw [if_neg k2]
      refine sF f194 ?_
      repeat' ((first | (refine kO 7 rfl ?_; first | refine rG (fun _ z => ⟨_, l1, z⟩) ?_ | refine rG (fun _ z => ⟨_, l2, z⟩) ?_ | refine rG (fun _ z => ⟨_, within_p _ _ _, z⟩) ?_) | refine tG ?_ | exact True.intro | refine brp (fun h => ?_) fun h => ?_ | refine opsA_ifp rfl rfl rfl (fun h => ?_) fun h => ?_ | refine opsA_unlessp rfl rfl rfl (fun h => ?_) fun h => ?_) <;> (try conv => whnf))
      all_goals first | (first | done | rfl | exact True.intro) | (exfalso; omega)
  · rw [if_neg k1]
    by_cases k3 : 0 < b ∧ Int.gcd a b = 1
    · rw [decide_eq_true k3] at l1
      rw [decide_eq_false (show ¬ (0 < d ∧ Int.gcd c d = 1) from fun h => k1 ⟨k3, h⟩)] at l2
      refine sF f194 ?_
      repeat ((first | (refine kO 7 rfl ?_; first | refine rG (fun _ z => ⟨_, l1, z⟩) ?_ | refine rG (fun _ z => ⟨_, l2, z⟩) ?_) | refine tG ?_ | exact True.intro); (try conv => whnf))
      (first | done | rfl | exact True.intro)
    · rw [decide_eq_false k3] at l1
      refine sF f194 ?_
      repeat ((first | (refine kO 7 rfl ?_; first | refine rG (fun _ z => ⟨_, l1, z⟩) ?_) | refine tG ?_ | exact True.intro); (try conv => whnf))
      (first | done | rfl | exact True.intro)
def rulesErr (e : Int) (q : Sp) (ch : List Sp) : Int := if 0 ≤ e ∧ e ≤ 100 then (if facErr q ≠ 0 then facErr q else if ch.length ≤ 4 then fs (ch.map facErr) else 8) else 2
theorem sp_get {ch : List Sp} {i : Nat} (h : i < ch.length) : (ch.map sp)[i]? = some (sp (ch.getD i (0, 0, 0, 0))) := by
  simp [List.getD_eq_getElem?_getD, h]
theorem sp_mem {ch : List Sp} {i : Nat} (h : i < ch.length) : ch.getD i (0, 0, 0, 0) ∈ ch := by
  simp [List.getD_eq_getElem?_getD, h]
theorem fs_drop {ch : List Sp} {i : Nat} (h : i < ch.length) : fs ((ch.drop i).map facErr) = if facErr (ch.getD i (0, 0, 0, 0)) ≠ 0 then facErr (ch.getD i (0, 0, 0, 0)) else fs ((ch.drop (i + 1)).map facErr) := by
  rw [List.drop_eq_getElem_cons h, List.map_cons]
  simp [fs, List.getD_eq_getElem?_getD, h]
theorem checkRules_sat (e : Int) (q : Sp) (ch : List Sp) (hq : SpI q) (hch : ∀ s ∈ ch, SpI s) (hl : ch.length ≤ 4294967296) : Sat cx.P cx.gl 115 [Ru e q ch] (.one (I (rulesErr e q ch))) := by
  have f3 := fs3 (if 0 ≤ e ∧ e ≤ 100 then 0 else 2) (facErr q) (if ((ch.map sp).length : Int) ≤ 4 then 0 else 8)
  have g := factorErr_sat q hq
  have key : rulesErr e q ch = if fs [if 0 ≤ e ∧ e ≤ 100 then 0 else 2, facErr q, if ((ch.map sp).length : Int) ≤ 4 then 0 else 8] ≠ 0 then fs [if 0 ≤ e ∧ e ≤ 100 then 0 else 2, facErr q, if ((ch.map sp).length : Int) ≤ 4 then 0 else 8] else fs (ch.map facErr) := by
    rw [f3, List.length_map]; unfold rulesErr
    (repeat' split) <;> first | omega | rfl
  rw [key]
  clear key f3
  refine sF f115 ?_
  repeat ((first | (refine kO 7 rfl ?_; first | refine rG (fun _ z => ⟨_, wWithin_p _ _ _, z⟩) ?_ | refine rG (fun _ z => ⟨_, g, z⟩) ?_ | refine rG (fun _ z => ⟨_, wUnless_p _, z⟩) ?_ | refine rG (fun _ z => ⟨_, wFirst_fs _ (Nat.le_of_ble_eq_true rfl), z⟩) ?_) | refine tG ?_ | exact True.intro); (try conv => whnf))
  ((first | refine brp (fun h => ?_) fun h => ?_ | refine opsA_ifp rfl rfl rfl (fun h => ?_) fun h => ?_ | refine opsA_unlessp rfl rfl rfl (fun h => ?_) fun h => ?_) <;> (try conv => whnf))
  · (try (refine tG ?_; try exact True.intro))
    rw [if_pos h]; (first | done | rfl | exact True.intro)
  · rw [if_neg h]
    (try (refine tG ?_; try exact True.intro))
    refine loop_ind (ι := Nat) (fun i => i ≤ ch.length ∧ fs (ch.map facErr) = fs ((ch.drop i).map facErr)) (fun i => ch.length - i) (fun i => ⟨[(25, some (.val (false, [.st (.view (ch.map sp))]))), (26, vI ch.length), (27, vI i)], [], 0⟩) 0 (canon_auto (by rw [List.length_map]; kernel_rfl)) ⟨Nat.zero_le _, rfl⟩ ?_
    rintro i ⟨hi, he⟩
    (try (refine tG ?_; try exact True.intro))
    ((first | refine brp (fun h => ?_) fun h => ?_ | refine opsA_ifp rfl rfl rfl (fun h => ?_) fun h => ?_ | refine opsA_unlessp rfl rfl rfl (fun h => ?_) fun h => ?_) <;> (try conv => whnf))
    · have hlt : i < ch.length := by omega
      have hget := sp_get hlt
      have g := factorErr_sat _ (hch _ (sp_mem hlt))
      rw [fs_drop hlt] at he
      repeat ((first | (refine kO 7 rfl ?_; first | refine rG (fun _ z => ⟨_, g, z⟩) ?_) | refine tG ?_ | exact True.intro); (try conv => whnf))
      ((first | refine brp (fun h => ?_) fun h => ?_ | refine opsA_ifp rfl rfl rfl (fun h => ?_) fun h => ?_ | refine opsA_unlessp rfl rfl rfl (fun h => ?_) fun h => ?_) <;> (try conv => whnf))
      · (try (refine tG ?_; try exact True.intro))
        rw [he, if_pos h]; (first | done | rfl | exact True.intro)
      · rw [if_neg h] at he
        (try (refine tG ?_; try exact True.intro))
        exact ⟨i + 1, ⟨hlt, he⟩, by omega, cA⟩
    · obtain rfl : i = ch.length := by omega
      (try (refine tG ?_; try exact True.intro))
      rw [he, List.drop_length]; (first | done | rfl | exact True.intro)
end Go.Proofs.Tryz
