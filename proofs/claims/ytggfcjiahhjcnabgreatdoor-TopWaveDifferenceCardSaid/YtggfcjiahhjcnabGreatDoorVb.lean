/- Parts of the proof, joined. -/
import Derived.Test.YtggfcjiahhjcnabGreatDoorVa
import Derived.Test.YtggfcjiahhjcnabGreatDoorM
import Derived.Test.YtggfcjiahhjcnabGreatDoorWc
namespace Go.Proofs.Tryz
open Go.Fw Go.IntWalk Go.Plain
set_option maxRecDepth 100000
set_option maxHeartbeats 8000000
def scStep (s q : Sp) : Sp := (lowNum (s.1 * q.1) (s.2.1 * q.2.1), lowDen (s.1 * q.1) (s.2.1 * q.2.1), lowNum (s.2.2.1 * q.2.2.1) (s.2.2.2 * q.2.2.2), lowDen (s.2.2.1 * q.2.2.1) (s.2.2.2 * q.2.2.2))
def scT (ch : List Sp) (k : Nat) : Sp := (ch.take k).foldl scStep (1, 1, 1, 1)
theorem scT_succ {ch : List Sp} {k : Nat} (h : k < ch.length) : scT ch (k + 1) = scStep (scT ch k) (ch.getD k (0, 0, 0, 0)) := by
  unfold scT
  rw [List.take_succ_eq_append_getElem h, List.foldl_append]
  simp [List.getD_eq_getElem?_getD, h]
def scOf (ch : List Sp) : Sp := scT ch ch.length
abbrev scB (B : Int) (s : Sp) : Prop := (1 ≤ s.1 ∧ s.1 ≤ B) ∧ (1 ≤ s.2.1 ∧ s.2.1 ≤ B) ∧ (1 ≤ s.2.2.1 ∧ s.2.2.1 ≤ B) ∧ 1 ≤ s.2.2.2 ∧ s.2.2.2 ≤ B
theorem facErr_zero {q : Sp} (h : facErr q = 0) : scB 1000 q ∧ Int.gcd q.1 q.2.1 = 1 ∧ Int.gcd q.2.2.1 q.2.2.2 = 1 ∧ ¬ q.2.2.1 * q.2.1 < q.1 * q.2.2.2 := by
  unfold facErr at h
  split at h
  · rename_i h1
    split at h
    · rename_i h2
      split at h
      · omega
      · rename_i h3
        exact ⟨by omega, h1.1.2, h1.2.2, h3⟩
    · omega
  · omega
theorem low_pos1 {n d B : Int} (hn : 1 ≤ n ∧ n ≤ B) (hd : 1 ≤ d ∧ d ≤ B) : (1 ≤ lowNum n d ∧ lowNum n d ≤ B) ∧ 1 ≤ lowDen n d ∧ lowDen n d ≤ B := by
  have h1 := low_le (show 0 ≤ n by omega) (show 0 < d by omega)
  have h2 := lowNum_nonneg (n := n) (d := d) (by omega)
  have h3 := lowDen_pos (n := n) (show 0 < d by omega)
  have h4 := low_num_eq n d
  have h5 : lowNum n d ≠ 0 := by intro e; rw [e, Int.mul_zero] at h4; omega
  omega
theorem mulP {a b A B : Int} (ha : 1 ≤ a ∧ a ≤ A) (hb : 1 ≤ b ∧ b ≤ B) : 1 ≤ a * b ∧ a * b ≤ A * B := by
  have h1 : 1 * 1 ≤ a * b := Int.mul_le_mul ha.1 hb.1 (by omega) (by omega)
  have h2 : a * b ≤ A * B := Int.mul_le_mul ha.2 hb.2 (by omega) (by omega)
  omega
theorem scStep_B {s q : Sp} {B : Int} (hs : scB B s) (hq : scB 1000 q) : scB (B * 1000) (scStep s q) := by
  obtain ⟨s1, s2, s3, s4⟩ := hs
  obtain ⟨q1, q2, q3, q4⟩ := hq
  have a := low_pos1 (mulP s1 q1) (mulP s2 q2)
  have b := low_pos1 (mulP s3 q3) (mulP s4 q4)
  exact ⟨a.1, a.2, b.1, b.2⟩
theorem scT_B {ch : List Sp} (hc : ∀ q ∈ ch, facErr q = 0) : ∀ k, k ≤ ch.length → scB (1000 ^ k) (scT ch k) := by
  intro k
  induction k with
  | zero => intro _; unfold scT; simp
  | succ k ih =>
    intro hk
    rw [scT_succ hk, Int.pow_succ]
    exact scStep_B (ih (by omega)) (facErr_zero (hc _ (sp_mem hk))).1
theorem pow4 {k : Nat} (h : k ≤ 4) : (1000 : Int) ^ k ≤ 1000000000000 := by
  rcases (show k = 0 ∨ k = 1 ∨ k = 2 ∨ k = 3 ∨ k = 4 by omega) with rfl | rfl | rfl | rfl | rfl <;> decide
theorem scT_B4 {ch : List Sp} (hc : ∀ q ∈ ch, facErr q = 0) (hl : ch.length ≤ 4) {k : Nat} (hk : k ≤ ch.length) : scB 1000000000000 (scT ch k) := by
  have h := scT_B hc k hk
  have := pow4 (k := k) (by omega)
  omega
theorem rulesErr_zero {e : Int} {q : Sp} {ch : List Sp} (h : rulesErr e q ch = 0) : (0 ≤ e ∧ e ≤ 100) ∧ facErr q = 0 ∧ ch.length ≤ 4 ∧ ∀ s ∈ ch, facErr s = 0 := by
  unfold rulesErr at h
  split at h
  · rename_i h1
    split at h
    · exact absurd h (by assumption)
    · rename_i h2
      split at h
      · rename_i h3
        refine ⟨h1, by omega, h3, ?_⟩
        clear h2 h3
        induction ch with
        | nil => intro s hs; cases hs
        | cons x ch ih =>
          simp only [List.map_cons, fs] at h
          by_cases hx : facErr x = 0
          · rw [if_neg (by omega)] at h
            intro s hs
            rcases List.mem_cons.1 hs with rfl | hs
            · exact hx
            · exact ih h s hs
          · rw [if_pos hx] at h; omega
      · omega
  · omega
abbrev scSmall (s : Sp) : Prop := (s.1 ≤ 1000000000 ∧ s.2.1 ≤ 1000000000) ∧ s.2.2.1 ≤ 1000000000 ∧ s.2.2.2 ≤ 1000000000
def scErr (e : Int) (q : Sp) (ch : List Sp) : Int := if rulesErr e q ch ≠ 0 then rulesErr e q ch else if scSmall (scOf ch) then 0 else 8
end Go.Proofs.Tryz

namespace Go.Proofs.Tryz
open Go.Fw Go.IntWalk Go.Plain
set_option maxRecDepth 100000
set_option maxHeartbeats 8000000
theorem sz_pos {n : Int} (h : 1 ≤ n ∧ n ≤ 1000000000000) : Sz 20000 n := (sz_int (by omega)).mono (by omega)
theorem refRulesErr_sat (e : Int) (q : Sp) (ch : List Sp) (hq : SpI q) (hch : ∀ s ∈ ch, SpI s) : Sat cx.P cx.gl 28 [Ru e q ch] (.one (I (rulesErr e q ch))) := by
  have g := refFactorErr_sat q hq
  unfold rulesErr
  by_cases h1 : 0 ≤ e ∧ e ≤ 100
  · rw [if_pos h1]
    by_cases h2 : facErr q = 0
    · rw [if_neg (by omega)]
      rw [h2] at g
      by_cases h3 : ch.length ≤ 4
      · rw [if_pos h3]
        have hlen : (ch.map sp).length = ch.length := List.length_map ..
        refine Sat_of_awp (fn := f28) cx_ok (by kernel_rfl) (by kernel_rfl) rfl (by kernel_rfl) (Nat.le_of_ble_eq_true rfl) ?_
        repeat ((first | refine oP rfl ?_ | refine rP rfl (fun _ z => z) ?_ | (refine kO 1 rfl ?_; refine rG (fun _ z => z) ?_) | (refine kO 2 rfl ?_; refine rG (fun _ z => z) ?_) | (refine kO 3 rfl ?_; first | refine rLdb rfl rfl rfl rfl rfl rfl rfl ?_ | refine rG (fun _ z => z) ?_) | (refine kO 7 rfl ?_; first | refine rG (fun _ z => ⟨_, within_p _ _ _, z⟩) ?_ | refine rG (fun _ z => ⟨_, g, z⟩) ?_) | (refine kO 6 rfl ?_; refine rLenv rfl rfl rfl rfl rfl rfl ?_) | refine oN ?_ | refine aS ?_ | refine aR ?_ | refine aK ?_ | refine aB ?_ | refine aC rfl ?_ | refine bF ?_ | refine bPf (by omega) ?_ | refine aL ?_); (try conv => whnf))
        refine loop_ind (ι := Nat) (fun i => i ≤ ch.length ∧ fs (ch.map facErr) = fs ((ch.drop i).map facErr)) (fun i => ch.length - i) (fun i => ⟨[(1, pP 0), (4, vI i)], [(0, some (.box 28 [.st (J e), .st (J q.1), .st (J q.2.1), .st (J q.2.2.1), .st (J q.2.2.2), .st (.view (ch.map sp))]))], 1⟩) 0 (canon_auto (by kernel_rfl)) ⟨Nat.zero_le _, rfl⟩ ?_
        rintro i ⟨hi, he⟩
        repeat ((first | refine oP rfl ?_ | refine rP rfl (fun _ z => z) ?_ | (refine kO 1 rfl ?_; refine rG (fun _ z => z) ?_) | (refine kO 3 rfl ?_; refine rLdb rfl rfl rfl rfl rfl rfl rfl ?_) | (refine kO 6 rfl ?_; refine rLenv rfl rfl rfl rfl rfl rfl ?_) | refine oN ?_ | refine aS ?_ | refine aR ?_ | refine aC rfl ?_); (try conv => whnf))
        ((refine brp (fun h => ?_) (fun h => ?_)) <;> (try conv => whnf))
        · have hlt : i < ch.length := by omega
          have hget := sp_get hlt
          have g := refFactorErr_sat _ (hch _ (sp_mem hlt))
          rw [fs_drop hlt] at he
          repeat ((first | refine oP rfl ?_ | refine rP rfl (fun _ z => z) ?_ | (refine kO 1 rfl ?_; refine rG (fun _ z => z) ?_) | (refine kO 3 rfl ?_; first | refine rLdb rfl rfl rfl rfl rfl rfl rfl ?_ | refine rG (fun _ z => z) ?_) | (refine kO 5 rfl ?_; refine rIdvN rfl rfl rfl rfl rfl rfl (by assumption) rfl ?_) | (refine kO 7 rfl ?_; refine rG (fun _ z => ⟨_, g, z⟩) ?_) | refine oN ?_ | refine aS ?_ | refine aR ?_ | refine aK ?_ | refine aB ?_ | refine aC rfl ?_); (try conv => whnf))
          ((refine brp (fun h => ?_) (fun h => ?_)) <;> (try conv => whnf))
          · repeat ((first | refine oP rfl ?_ | refine rP rfl (fun _ z => z) ?_ | refine oN ?_ | refine aS ?_ | refine aR ?_ | refine aT ?_); (try conv => whnf))
            rw [he, if_pos h]; (rfl)
          · rw [if_neg h] at he
            repeat ((first | refine oP rfl ?_ | refine rP rfl (fun _ z => z) ?_ | (refine kO 1 rfl ?_; refine rAdd rfl rfl rfl (by omega) ?_) | refine oN ?_ | refine aR ?_ | refine aK ?_); (try conv => whnf))
            exact ⟨i + 1, ⟨hlt, he⟩, by omega, canon_auto (by kernel_rfl)⟩
        · obtain rfl : i = ch.length := by omega
          repeat ((first | refine oP rfl ?_ | refine rP rfl (fun _ z => z) ?_ | refine oN ?_ | refine aS ?_ | refine aR ?_ | refine aX ?_ | refine aT ?_); (try conv => whnf))
          rw [he, List.drop_length]; (rfl)
      · rw [if_neg h3]
        have hlen : (ch.map sp).length = ch.length := List.length_map ..
        refine Sat_of_awp (fn := f28) cx_ok (by kernel_rfl) (by kernel_rfl) rfl (by kernel_rfl) (Nat.le_of_ble_eq_true rfl) ?_
        repeat ((first | refine oP rfl ?_ | refine rP rfl (fun _ z => z) ?_ | (refine kO 1 rfl ?_; refine rG (fun _ z => z) ?_) | (refine kO 2 rfl ?_; refine rG (fun _ z => z) ?_) | (refine kO 3 rfl ?_; first | refine rLdb rfl rfl rfl rfl rfl rfl rfl ?_ | refine rG (fun _ z => z) ?_) | (refine kO 7 rfl ?_; first | refine rG (fun _ z => ⟨_, within_p _ _ _, z⟩) ?_ | refine rG (fun _ z => ⟨_, g, z⟩) ?_) | (refine kO 6 rfl ?_; refine rLenv rfl rfl rfl rfl rfl rfl ?_) | refine oN ?_ | refine aS ?_ | refine aR ?_ | refine aK ?_ | refine aT ?_ | refine aC rfl ?_ | refine bF ?_ | refine bPt (by omega) ?_ | refine bPf (by omega) ?_); (try conv => whnf))
        (done)
    · rw [if_pos h2]
      generalize facErr q = z at *
      refine Sat_of_awp (fn := f28) cx_ok (by kernel_rfl) (by kernel_rfl) rfl (by kernel_rfl) (Nat.le_of_ble_eq_true rfl) ?_
      repeat ((first | refine oP rfl ?_ | refine rP rfl (fun _ z => z) ?_ | (refine kO 1 rfl ?_; refine rG (fun _ z => z) ?_) | (refine kO 2 rfl ?_; refine rG (fun _ z => z) ?_) | (refine kO 3 rfl ?_; first | refine rLdb rfl rfl rfl rfl rfl rfl rfl ?_ | refine rG (fun _ z => z) ?_) | (refine kO 7 rfl ?_; first | refine rG (fun _ z => ⟨_, within_p _ _ _, z⟩) ?_ | refine rG (fun _ z => ⟨_, g, z⟩) ?_) | refine oN ?_ | refine aS ?_ | refine aR ?_ | refine aK ?_ | refine aT ?_ | refine aC rfl ?_ | refine bPt (by omega) ?_ | refine bPf (by omega) ?_); (try conv => whnf))
      (rfl)
  · rw [if_neg h1]
    refine Sat_of_awp (fn := f28) cx_ok (by kernel_rfl) (by kernel_rfl) rfl (by kernel_rfl) (Nat.le_of_ble_eq_true rfl) ?_
    repeat ((first | refine oP rfl ?_ | refine rP rfl (fun _ z => z) ?_ | (refine kO 2 rfl ?_; refine rG (fun _ z => z) ?_) | (refine kO 3 rfl ?_; refine rLdb rfl rfl rfl rfl rfl rfl rfl ?_) | (refine kO 7 rfl ?_; refine rG (fun _ z => ⟨_, within_p _ _ _, z⟩) ?_) | refine oN ?_ | refine aS ?_ | refine aR ?_ | refine aT ?_ | refine aC rfl ?_ | refine bPt (by omega) ?_); (try conv => whnf))
    (done)
theorem copyRules_sat (e : Int) (q : Sp) (ch : List Sp) (hl : ch.length ≤ 4294967296) : Sat cx.P cx.gl 8 [Ru e q ch] (.one (Ru e q ch)) := by
  have hlen : (ch.map sp).length ≤ 4294967296 := by rw [List.length_map]; exact hl
  have hun : (SC.view ([] ++ ch.map sp)).uni 4 := by
    intro x hx
    rw [List.nil_append] at hx
    obtain ⟨s, _, rfl⟩ := List.mem_map.1 hx
    rfl
  refine Sat_of_awp (fn := f8) cx_ok (by kernel_rfl) (by kernel_rfl) rfl (by kernel_rfl) (Nat.le_of_ble_eq_true rfl) ?_
  repeat ((first | refine oP rfl ?_ | refine rP rfl (fun _ z => z) ?_ | (refine kO 3 rfl ?_; first | refine rLdb rfl rfl rfl rfl rfl rfl rfl ?_ | refine rG (fun _ z => z) ?_) | refine oN ?_ | refine aS ?_ | refine aR ?_); (try conv => whnf))
  refine rG (fun _ z => ⟨hun, lvN hlen, z⟩) ?_
  (conv => whnf)
  repeat ((first | refine oP rfl ?_ | refine rP rfl (fun _ z => z) ?_ | (refine kO 4 rfl ?_; refine rG (fun _ z => z) ?_) | refine oN ?_ | refine aT ?_ | refine dI (by kernel_rfl) ?_); (try conv => whnf))
  (rfl)
theorem copyRecord_sat (st : Int) (l : List Int) (hl : l.length ≤ 4294967296) : Sat cx.P cx.gl 10 [Rc st l] (.one (Rc st l)) := by
  refine Sat_of_awp (fn := f10) cx_ok (by kernel_rfl) (by kernel_rfl) rfl (by kernel_rfl) (Nat.le_of_ble_eq_true rfl) ?_
  repeat ((first | refine oP rfl ?_ | refine rP rfl (fun _ z => z) ?_ | (refine kO 3 rfl ?_; refine rLdb rfl rfl rfl rfl rfl rfl rfl ?_) | (refine kO 4 rfl ?_; refine rG (fun _ z => z) ?_) | (refine kO 7 rfl ?_; refine rG (fun _ z => ⟨_, copyInts_sat l hl, z⟩) ?_) | refine oN ?_ | refine aS ?_ | refine aR ?_ | refine aT ?_ | refine dI (by kernel_rfl) ?_); (try conv => whnf))
  (rfl)
theorem fewFactors_sat (e : Int) (q : Sp) (ch : List Sp) : Sat cx.P cx.gl 5 [Ru e q ch] (.one (Bo (decide (ch.length ≤ 6)))) := by
  refine Sat_of_awp (fn := f5) cx_ok (by kernel_rfl) (by kernel_rfl) rfl (by kernel_rfl) (Nat.le_of_ble_eq_true rfl) ?_
  repeat ((first | refine oP rfl ?_ | refine rP rfl (fun _ z => z) ?_ | (refine kO 1 rfl ?_; refine rG (fun _ z => z) ?_) | (refine kO 3 rfl ?_; refine rLdb rfl rfl rfl rfl rfl rfl rfl ?_) | (refine kO 6 rfl ?_; refine rLenv rfl rfl rfl rfl rfl rfl ?_) | refine oN ?_ | refine aS ?_ | refine aR ?_ | refine aT ?_); (try conv => whnf))
  exact res_bo (decide_eq_decide.2 (by rw [List.length_map]; omega))
end Go.Proofs.Tryz

namespace Go.Proofs.Tryz
open Go.Fw Go.IntWalk Go.Plain
set_option maxRecDepth 100000
set_option maxHeartbeats 8000000
/-- A record with an error of the recorder. -/
abbrev Rr (l : List Int) (e : Int) : SV := (true, [.ints l, J e])
theorem getD_in {l : List Int} {lo hi : Int} (h : AllIn l lo hi) {i : Nat} (hi' : i < l.length) : lo ≤ l.getD i 0 ∧ l.getD i 0 ≤ hi := h _ (getD_mem hi')
theorem maxL_sat {l : List Int} (h0 : 0 < l.length) (hl : l.length ≤ maxLen) : Sat cx.P cx.gl 68 [L l] (.one (I (pkV l))) := by
  unfold maxLen at hl
  have p1 : pkT l 1 = 0 := by unfold pkT; split <;> rfl
  refine Sat_of_awp (fn := f68) cx_ok (by kernel_rfl) (by kernel_rfl) rfl (by kernel_rfl) (Nat.le_of_ble_eq_true rfl) ?_
  repeat ((first | refine oP rfl ?_ | refine rP rfl (fun _ z => z) ?_ | (refine kO 1 rfl ?_; refine rG (fun _ z => z) ?_) | (refine kO 3 rfl ?_; refine rLdr rfl rfl rfl rfl rfl ?_) | (refine kO 5 rfl ?_; refine rIdN rfl rfl rfl rfl rfl rfl rfl (by omega) ?_) | (refine kO 6 rfl ?_; refine rLen rfl rfl rfl rfl rfl rfl ?_) | refine oN ?_ | refine aS ?_ | refine aR ?_ | refine aK ?_ | refine aB ?_ | refine aC rfl ?_ | refine bPf (by omega) ?_ | refine aL ?_); (try conv => whnf))
  refine loop_ind (ι := Nat) (fun i => 1 ≤ i ∧ i ≤ l.length) (fun i => l.length - i) (fun i => ⟨[(0, vL l), (3, vI (l.getD (pkT l i) 0)), (4, vI i)], [], 0⟩) 1 (canon_auto (by rw [p1]; kernel_rfl)) ⟨Nat.le_refl _, h0⟩ ?_
  rintro i ⟨hi0, hi⟩
  have hs : (if l.getD i 0 > l.getD (pkT l i) 0 then l.getD i 0 else l.getD (pkT l i) 0) = l.getD (pkT l (i + 1)) 0 := by
    show _ = l.getD (if l.getD i 0 > l.getD (pkT l i) 0 then i else pkT l i) 0
    split <;> rfl
  repeat ((first | refine oP rfl ?_ | refine rP rfl (fun _ z => z) ?_ | (refine kO 1 rfl ?_; refine rG (fun _ z => z) ?_) | (refine kO 6 rfl ?_; refine rLen rfl rfl rfl rfl rfl rfl ?_) | refine oN ?_ | refine aS ?_ | refine aR ?_ | refine aC rfl ?_); (try conv => whnf))
  ((refine brp (fun h => ?_) (fun h => ?_)) <;> (try conv => whnf))
  · have hlt : i < l.length := by omega
    repeat ((first | refine oP rfl ?_ | refine rP rfl (fun _ z => z) ?_ | (refine kO 1 rfl ?_; refine rAdd rfl rfl rfl (by omega) ?_) | (refine kO 3 rfl ?_; refine rLdr rfl rfl rfl rfl rfl ?_) | (refine kO 5 rfl ?_; refine rIdN rfl rfl rfl rfl rfl rfl rfl (by omega) ?_) | (refine kO 6 rfl ?_; refine rG (fun _ z => z) ?_) | refine oN ?_ | refine aS ?_ | refine aR ?_ | refine aK ?_ | refine aB ?_); (try conv => whnf))
    exact ⟨i + 1, ⟨by omega, hlt⟩, by omega, canon_auto (by rw [← hs]; kernel_rfl)⟩
  · obtain rfl : i = l.length := by omega
    repeat ((first | refine oP rfl ?_ | refine rP rfl (fun _ z => z) ?_ | refine oN ?_ | refine aS ?_ | refine aR ?_ | refine aX ?_ | refine aT ?_); (try conv => whnf))
    (rfl)
theorem indexMax_sat {l : List Int} (h0 : 0 < l.length) (hl : l.length ≤ maxLen) : Sat cx.P cx.gl 69 [L l, I (pkV l)] (.one (I (pk l : Nat))) := by
  unfold maxLen at hl
  have hp : pk l < l.length := pkT_lt h0
  refine Sat_of_awp (fn := f69) cx_ok (by kernel_rfl) (by kernel_rfl) rfl (by kernel_rfl) (Nat.le_of_ble_eq_true rfl) ?_
  repeat ((first | refine oP rfl ?_ | refine rP rfl (fun _ z => z) ?_ | (refine kO 6 rfl ?_; refine rLen rfl rfl rfl rfl rfl rfl ?_) | refine oN ?_ | refine aS ?_ | refine aR ?_ | refine aB ?_ | refine aL ?_); (try conv => whnf))
  refine loop_ind (ι := Nat) (fun i => i ≤ pk l) (fun i => l.length - i) (fun i => ⟨[(0, vL l), (1, vI (pkV l)), (7, vI l.length), (8, vI i)], [], 0⟩) 0 (canon_auto (by kernel_rfl)) (Nat.zero_le _) ?_
  intro i hi
  by_cases he : i = pk l
  · subst he
    have : l.getD (pk l) 0 = pkV l := rfl
    repeat ((first | refine oP rfl ?_ | refine rP rfl (fun _ z => z) ?_ | (refine kO 1 rfl ?_; refine rG (fun _ z => z) ?_) | (refine kO 3 rfl ?_; refine rLdr rfl rfl rfl rfl rfl ?_) | (refine kO 5 rfl ?_; refine rIdN rfl rfl rfl rfl rfl rfl rfl (by omega) ?_) | refine oN ?_ | refine aS ?_ | refine aR ?_ | refine aK ?_ | refine aB ?_ | refine aT ?_ | refine aC rfl ?_ | refine bPt (by omega) ?_); (try conv => whnf))
    (done)
  · have hlt : i < pk l := by omega
    have : l.getD i 0 < pkV l := pkT_first hlt
    repeat ((first | refine oP rfl ?_ | refine rP rfl (fun _ z => z) ?_ | (refine kO 1 rfl ?_; first | refine rAdd rfl rfl rfl (by omega) ?_ | refine rG (fun _ z => z) ?_) | (refine kO 3 rfl ?_; refine rLdr rfl rfl rfl rfl rfl ?_) | (refine kO 5 rfl ?_; refine rIdN rfl rfl rfl rfl rfl rfl rfl (by omega) ?_) | refine oN ?_ | refine aS ?_ | refine aR ?_ | refine aK ?_ | refine aB ?_ | refine aC rfl ?_ | refine bPt (by omega) ?_ | refine bPf (by omega) ?_); (try conv => whnf))
    exact ⟨i + 1, hlt, by omega, canon_auto (by kernel_rfl)⟩
theorem pkV_in {l : List Int} (h0 : 0 < l.length) (h : AllIn l (-4096) 4096) : -4096 ≤ pkV l ∧ pkV l ≤ 4096 := getD_in h (pkT_lt h0)
theorem peak8_sat {l : List Int} {e : Int} (h0 : 0 < l.length) (hl : l.length ≤ maxLen) (h : AllIn l (-4096) 4096) (he : 0 ≤ e ∧ e ≤ 1000) : Sat cx.P cx.gl 42 [Rr l e] (.tup [I (pk l : Nat), F2 (pkV l - e) (pkV l + e)]) := by
  have hv := pkV_in h0 h
  have g1 := maxL_sat h0 hl
  have g2 := indexMax_sat h0 hl
  refine Sat_of_awp (fn := f42) cx_ok (by kernel_rfl) (by kernel_rfl) rfl (by kernel_rfl) (Nat.le_of_ble_eq_true rfl) ?_
  repeat ((first | refine oP rfl ?_ | refine rP rfl (fun _ z => z) ?_ | (refine kO 1 rfl ?_; first | refine rAdd rfl rfl rfl (by omega) ?_ | refine rSub rfl rfl rfl (by omega) ?_) | (refine kO 3 rfl ?_; refine rLdb rfl rfl rfl rfl rfl rfl rfl ?_) | (refine kO 4 rfl ?_; refine rG (fun _ z => z) ?_) | (refine kO 7 rfl ?_; first | refine rG (fun _ z => ⟨_, g1, z⟩) ?_ | refine rG (fun _ z => ⟨_, g2, z⟩) ?_) | refine oN ?_ | refine aS ?_ | refine aR ?_ | refine aT ?_ | refine dI (by kernel_rfl) ?_); (try conv => whnf))
  (rfl)
theorem indexFuncM_sat (l : List Int) (g : FuncId) (first : List (Bool × List SC)) (caps : List (List SC)) (p : Int → Bool) (hp : ∀ n ∈ l, Sat cx.P cx.gl g (first ++ [I n] ++ caps.map fun cs => (false, [.ref cs])) (.one (Bo (p n)))) (hl : l.length ≤ maxLen) :
    Sat cx.P cx.gl 98 [L l, (false, [.fn g first caps])] (.one (I (fF p l 0))) := by
  unfold maxLen at hl
  refine Sat_of_awp (fn := f98) cx_ok (by kernel_rfl) (by kernel_rfl) rfl (by kernel_rfl) (Nat.le_of_ble_eq_true rfl) ?_
  repeat ((first | refine oP rfl ?_ | refine rP rfl (fun _ z => z) ?_ | (refine kO 6 rfl ?_; refine rLen rfl rfl rfl rfl rfl rfl ?_) | refine oN ?_ | refine aS ?_ | refine aR ?_ | refine aB ?_ | refine aL ?_); (try conv => whnf))
  refine loop_ind (ι := Nat) (fun i => i ≤ l.length ∧ fF p l 0 = fF p l i) (fun i => l.length - i) (fun i => ⟨[(0, vL l), (1, some (.val (false, [.st (.fn g first caps)]))), (7, vI l.length), (8, vI i)], [], 0⟩) 0 (canon_auto (by kernel_rfl)) ⟨Nat.zero_le _, rfl⟩ ?_
  rintro i ⟨hi, hf⟩
  repeat ((first | refine oP rfl ?_ | (refine kO 1 rfl ?_; refine rG (fun _ z => z) ?_) | refine oN ?_ | refine aS ?_ | refine aR ?_ | refine aC rfl ?_); (try conv => whnf))
  ((refine brp (fun h => ?_) (fun h => ?_)) <;> (try conv => whnf)) <;> (repeat ((first | refine oP rfl ?_ | refine rP rfl (fun _ z => z) ?_ | (refine kO 3 rfl ?_; refine rLdr rfl rfl rfl rfl rfl ?_) | (refine kO 5 rfl ?_; refine rIdN rfl rfl rfl rfl rfl rfl rfl (by omega) ?_) | refine oN ?_ | refine aS ?_ | refine aR ?_ | refine aK ?_ | refine aX ?_ | refine aB ?_ | refine aT ?_); (try conv => whnf)))
  · have hlt : i < l.length := by omega
    have hc := hp _ (getD_mem (d := 0) hlt)
    rw [fF_step hlt] at hf
    repeat ((first | (refine kO 7 rfl ?_; refine rG (fun _ z => ⟨_, hc, z⟩) ?_) | refine oN ?_ | refine aC rfl ?_); (try conv => whnf))
    ((refine brp (fun h => ?_) (fun h => ?_)) <;> (try conv => whnf)) <;> (repeat ((first | refine oP rfl ?_ | refine rP rfl (fun _ z => z) ?_ | (refine kO 1 rfl ?_; refine rAdd rfl rfl rfl (by omega) ?_) | refine oN ?_ | refine aS ?_ | refine aR ?_ | refine aK ?_ | refine aT ?_); (try conv => whnf)))
    · rw [hf, if_pos h]; (done)
    · rw [if_neg h] at hf
      exact ⟨i + 1, ⟨hlt, hf⟩, by omega, canon_auto (by kernel_rfl)⟩
  · obtain rfl : i = l.length := by omega
    rw [hf, fF_end]; (done)
theorem fF_drop (p : Int → Bool) (l : List Int) (a : Nat) : fF p l a = if fF p (l.drop a) 0 ≥ 0 then (a : Int) + fF p (l.drop a) 0 else -1 := by
  unfold fF
  rw [List.drop_zero]
  by_cases h : (l.drop a).any p = true
  · rw [if_pos h, if_pos h, if_pos (by omega)]; omega
  · rw [if_neg h, if_neg h, if_neg (by omega)]
theorem from_sat (l : List Int) (e : Int) (a : Nat) (g : FuncId) (first : List (Bool × List SC)) (caps : List (List SC)) (p : Int → Bool) (ha : a ≤ l.length) (hp : ∀ n ∈ l, Sat cx.P cx.gl g (first ++ [I n] ++ caps.map fun cs => (false, [.ref cs])) (.one (Bo (p n)))) (hl : l.length ≤ maxLen) :
    Sat cx.P cx.gl 70 [Rr l e, I (a : Nat), (false, [.fn g first caps])] (.one (I (fF p l a))) := by
  have hld : (l.drop a).length ≤ maxLen := by rw [List.length_drop]; omega
  have c := indexFuncM_sat (l.drop a) g first caps p (fun n hn => hp n (List.mem_of_mem_drop hn)) hld
  have c' : Sat cx.P cx.gl 98 [L (l.drop (a : Int).toNat), (false, [.fn g first caps])] (.one (I (fF p (l.drop a) 0))) := c
  rw [fF_drop]
  have hb := fF_bound p (l.drop a) (Nat.zero_le _)
  rw [List.length_drop] at hb
  unfold maxLen at hl
  refine Sat_of_awp (fn := f70) cx_ok (by kernel_rfl) (by kernel_rfl) rfl (by kernel_rfl) (Nat.le_of_ble_eq_true rfl) ?_
  repeat ((first | refine oP rfl ?_ | refine rP rfl (fun _ z => z) ?_ | (refine kO 1 rfl ?_; refine rG (fun _ z => z) ?_) | (refine kO 3 rfl ?_; refine rLdb rfl rfl rfl rfl rfl rfl rfl ?_) | (refine kO 7 rfl ?_; refine rG (fun _ z => ⟨_, c', z⟩) ?_) | (refine kO 8 rfl ?_; refine rSlL rfl rfl rfl rfl rfl rfl rfl (by omega) ?_) | refine oN ?_ | refine aS ?_ | refine aR ?_ | refine aC rfl ?_); (try conv => whnf))
  ((refine brp (fun h => ?_) (fun h => ?_)) <;> (try conv => whnf))
  · repeat ((first | refine oP rfl ?_ | refine rP rfl (fun _ z => z) ?_ | (refine kO 1 rfl ?_; refine rAdd rfl rfl rfl (by omega) ?_) | refine oN ?_ | refine aS ?_ | refine aR ?_ | refine aT ?_); (try conv => whnf))
    rw [if_pos h]; (done)
  · repeat ((first | refine oP rfl ?_ | refine rP rfl (fun _ z => z) ?_ | refine oN ?_ | refine aS ?_ | refine aR ?_ | refine aK ?_ | refine aT ?_); (try conv => whnf))
    rw [if_neg h]; (done)
/-! ### Levels -/
def lvLo (e t x : Int) : Int → Bool := fun n => decide (10 * (n + e) ≥ t * x)
def lvHi (e t x : Int) : Int → Bool := fun n => decide (10 * (n - e) ≥ t * x)
def hfLo (e x : Int) : Int → Bool := fun n => decide (2 * (n - e) ≤ x)
def hfHi (e x : Int) : Int → Bool := fun n => decide (2 * (n + e) ≤ x)
abbrev smp (n : Int) : Prop := -10000 ≤ n ∧ n ≤ 10000
theorem tx_mid {t x : Int} (ht : 0 ≤ t ∧ t ≤ 10) (hx : smp x) : -100000 ≤ t * x ∧ t * x ≤ 100000 := mulS (A := 10) (B := 10000) (by omega) hx (by omega)
theorem level1_sat (n : Int) (l : List Int) (e t x y : Int) (hn : smp n) (he : 0 ≤ e ∧ e ≤ 1000) (ht : 0 ≤ t ∧ t ≤ 10) (hx : smp x) : Sat cx.P cx.gl 71 [I n, (false, [.ref [.ints l, J e]]), (false, [.ref [J t]]), (false, [.ref [J x, J y]])] (.one (Bo (lvLo e t x n))) := by
  have := tx_mid ht hx
  refine Sat_of_awp (fn := f71) cx_ok (by kernel_rfl) (by kernel_rfl) rfl (by kernel_rfl) (Nat.le_of_ble_eq_true rfl) ?_
  repeat ((first | refine oP rfl ?_ | refine rP rfl (fun _ z => z) ?_ | (refine kO 1 rfl ?_; first | refine rAdd rfl rfl rfl (by omega) ?_ | refine rMul rfl rfl rfl (by omega) ?_ | refine rG (fun _ z => z) ?_) | (refine kO 3 rfl ?_; refine rLdr rfl rfl rfl rfl rfl ?_) | refine oN ?_ | refine aS ?_ | refine aR ?_ | refine aT ?_); (try conv => whnf))
  (rfl)
theorem level2_sat (n : Int) (l : List Int) (e t x y : Int) (hn : smp n) (he : 0 ≤ e ∧ e ≤ 1000) (ht : 0 ≤ t ∧ t ≤ 10) (hy : smp y) : Sat cx.P cx.gl 72 [I n, (false, [.ref [.ints l, J e]]), (false, [.ref [J t]]), (false, [.ref [J x, J y]])] (.one (Bo (lvHi e t y n))) := by
  have := tx_mid ht hy
  refine Sat_of_awp (fn := f72) cx_ok (by kernel_rfl) (by kernel_rfl) rfl (by kernel_rfl) (Nat.le_of_ble_eq_true rfl) ?_
  repeat ((first | refine oP rfl ?_ | refine rP rfl (fun _ z => z) ?_ | (refine kO 1 rfl ?_; first | refine rSub rfl rfl rfl (by omega) ?_ | refine rMul rfl rfl rfl (by omega) ?_ | refine rG (fun _ z => z) ?_) | (refine kO 3 rfl ?_; refine rLdr rfl rfl rfl rfl rfl ?_) | refine oN ?_ | refine aS ?_ | refine aR ?_ | refine aT ?_); (try conv => whnf))
  (rfl)
theorem half1_sat (n : Int) (l : List Int) (e x y : Int) (hn : smp n) (he : 0 ≤ e ∧ e ≤ 1000) : Sat cx.P cx.gl 73 [I n, (false, [.ref [.ints l, J e]]), (false, [.ref [J x, J y]])] (.one (Bo (hfLo e y n))) := by
  refine Sat_of_awp (fn := f73) cx_ok (by kernel_rfl) (by kernel_rfl) rfl (by kernel_rfl) (Nat.le_of_ble_eq_true rfl) ?_
  repeat ((first | refine oP rfl ?_ | refine rP rfl (fun _ z => z) ?_ | (refine kO 1 rfl ?_; first | refine rSub rfl rfl rfl (by omega) ?_ | refine rMul rfl rfl rfl (by omega) ?_ | refine rG (fun _ z => z) ?_) | (refine kO 3 rfl ?_; refine rLdr rfl rfl rfl rfl rfl ?_) | refine oN ?_ | refine aS ?_ | refine aR ?_ | refine aT ?_); (try conv => whnf))
  (rfl)
theorem half2_sat (n : Int) (l : List Int) (e x y : Int) (hn : smp n) (he : 0 ≤ e ∧ e ≤ 1000) : Sat cx.P cx.gl 74 [I n, (false, [.ref [.ints l, J e]]), (false, [.ref [J x, J y]])] (.one (Bo (hfHi e x n))) := by
  refine Sat_of_awp (fn := f74) cx_ok (by kernel_rfl) (by kernel_rfl) rfl (by kernel_rfl) (Nat.le_of_ble_eq_true rfl) ?_
  repeat ((first | refine oP rfl ?_ | refine rP rfl (fun _ z => z) ?_ | (refine kO 1 rfl ?_; first | refine rAdd rfl rfl rfl (by omega) ?_ | refine rMul rfl rfl rfl (by omega) ?_ | refine rG (fun _ z => z) ?_) | (refine kO 3 rfl ?_; refine rLdr rfl rfl rfl rfl rfl ?_) | refine oN ?_ | refine aS ?_ | refine aR ?_ | refine aT ?_); (try conv => whnf))
  (rfl)
theorem level_sat {l : List Int} {e t x y : Int} (hl : l.length ≤ maxLen) (h : AllIn l (-4096) 4096) (he : 0 ≤ e ∧ e ≤ 1000) (ht : 0 ≤ t ∧ t ≤ 10) (hx : smp x) (hy : smp y) : Sat cx.P cx.gl 48 [Rr l e, I t, F2 x y] (.one (F2 (fF (lvLo e t x) l 0) (fF (lvHi e t y) l 0))) := by
  have c1 := from_sat l e 0 71 [] [[.ints l, J e], [J t], [J x, J y]] (lvLo e t x) (Nat.zero_le _) (fun n hn => level1_sat n l e t x y (by have := h n hn; omega) he ht hx) hl
  have c2 := from_sat l e 0 72 [] [[.ints l, J e], [J t], [J x, J y]] (lvHi e t y) (Nat.zero_le _) (fun n hn => level2_sat n l e t x y (by have := h n hn; omega) he ht hy) hl
  have c1' : Sat cx.P cx.gl 70 [Rr l e, I 0, (false, [.fn 71 [] [[.ints l, J e], [J t], [J x, J y]]])] (.one (I (fF (lvLo e t x) l 0))) := c1
  have c2' : Sat cx.P cx.gl 70 [Rr l e, I 0, (false, [.fn 72 [] [[.ints l, J e], [J t], [J x, J y]]])] (.one (I (fF (lvHi e t y) l 0))) := c2
  refine Sat_of_awp (fn := f48) cx_ok (by kernel_rfl) (by kernel_rfl) rfl (by kernel_rfl) (Nat.le_of_ble_eq_true rfl) ?_
  repeat ((first | refine oP rfl ?_ | refine rP rfl (fun _ z => z) ?_ | (refine kO 3 rfl ?_; refine rG (fun _ z => z) ?_) | (refine kO 4 rfl ?_; refine rG (fun _ z => z) ?_) | (refine kO 7 rfl ?_; first | refine rG (fun _ z => ⟨_, c1', z⟩) ?_ | refine rG (fun _ z => ⟨_, c2', z⟩) ?_) | refine oN ?_ | refine aSs ?_ | refine aR ?_ | refine aT ?_ | refine dI (by kernel_rfl) ?_); (try conv => whnf))
  (rfl)
theorem half_sat {l : List Int} {e x y : Int} {a : Nat} (ha : a < l.length) (hl : l.length ≤ maxLen) (h : AllIn l (-4096) 4096) (he : 0 ≤ e ∧ e ≤ 1000) : Sat cx.P cx.gl 49 [Rr l e, I (a : Nat), F2 x y] (.one (F2 (fF (hfLo e y) l (a + 1)) (fF (hfHi e x) l (a + 1)))) := by
  have c1 := from_sat l e (a + 1) 73 [] [[.ints l, J e], [J x, J y]] (hfLo e y) ha (fun n hn => half1_sat n l e x y (by have := h n hn; omega) he) hl
  have c2 := from_sat l e (a + 1) 74 [] [[.ints l, J e], [J x, J y]] (hfHi e x) ha (fun n hn => half2_sat n l e x y (by have := h n hn; omega) he) hl
  unfold maxLen at hl
  rw [Int.natCast_add, Int.natCast_one] at c1 c2
  refine Sat_of_awp (fn := f49) cx_ok (by kernel_rfl) (by kernel_rfl) rfl (by kernel_rfl) (Nat.le_of_ble_eq_true rfl) ?_
  repeat ((first | refine oP rfl ?_ | refine rP rfl (fun _ z => z) ?_ | (refine kO 1 rfl ?_; refine rAdd rfl rfl rfl (by omega) ?_) | (refine kO 3 rfl ?_; refine rG (fun _ z => z) ?_) | (refine kO 4 rfl ?_; refine rG (fun _ z => z) ?_) | (refine kO 7 rfl ?_; first | refine rG (fun _ z => ⟨_, c1, z⟩) ?_ | refine rG (fun _ z => ⟨_, c2, z⟩) ?_) | refine oN ?_ | refine aSs ?_ | refine aR ?_ | refine aT ?_ | refine dI (by kernel_rfl) ?_); (try conv => whnf))
  (rfl)
end Go.Proofs.Tryz

namespace Go.Proofs.Tryz
open Go.Fw Go.IntWalk Go.Plain
set_option maxRecDepth 100000
set_option maxHeartbeats 8000000
theorem recErr_zero {st : Int} {l : List Int} (h : recErr st l = 0) : (1 ≤ st ∧ st ≤ 1000000) ∧ 3 ≤ l.length ∧ l.length ≤ 64 ∧ AllIn l (-4096) 4096 := by
  unfold recErr at h
  repeat' split at h
  all_goals first | omega | exact ⟨by assumption, by assumption, by assumption, by assumption⟩
def bothErr (e : Int) (q : Sp) (ch : List Sp) (st : Int) (l : List Int) : Int := if rulesErr e q ch ≠ 0 then rulesErr e q ch else recErr st l
theorem bothErr_zero {e : Int} {q : Sp} {ch : List Sp} {st : Int} {l : List Int} (h : bothErr e q ch st l = 0) : rulesErr e q ch = 0 ∧ recErr st l = 0 := by
  unfold bothErr at h
  split at h <;> omega
theorem bothErr_sat (e : Int) (q : Sp) (ch : List Sp) (st : Int) (l : List Int) (hq : SpI q) (hch : ∀ s ∈ ch, SpI s) (hl : l.length ≤ maxLen) : Sat cx.P cx.gl 6 [Ru e q ch, Rc st l] (.one (I (bothErr e q ch st l))) := by
  have s1 := refRulesErr_sat e q ch hq hch
  have s2 := refRecordErr_sat st l hl
  unfold bothErr
  by_cases h : rulesErr e q ch = 0
  · rw [if_neg (by omega)]
    rw [h] at s1
    refine Sat_of_awp (fn := f6) cx_ok (by kernel_rfl) (by kernel_rfl) rfl (by kernel_rfl) (Nat.le_of_ble_eq_true rfl) ?_
    repeat ((first | refine oP rfl ?_ | refine rP rfl (fun _ z => z) ?_ | (refine kO 1 rfl ?_; first | refine rAdd rfl rfl rfl (by omega) ?_ | refine rSub rfl rfl rfl (by omega) ?_ | refine rMul rfl rfl rfl (by omega) ?_ | refine rQuo rfl rfl rfl (by omega) ?_ | refine rRem rfl rfl rfl (by omega) ?_ | refine rQuo' rfl rfl rfl (by omega) ?_ | refine rRem' rfl rfl rfl (by omega) ?_ | refine rG (fun _ z => z) ?_) | (refine kO 2 rfl ?_; first | refine rNeg rfl rfl (by omega) ?_ | refine rG (fun _ z => z) ?_) | (refine kO 3 rfl ?_; first | refine rLdr rfl rfl rfl rfl rfl ?_ | refine rLdb rfl rfl rfl rfl rfl rfl rfl ?_ | refine rLdi rfl rfl rfl rfl rfl rfl (by first | omega | decide | exact Nat.le_of_ble_eq_true rfl | (dsimp only [SC.len]; omega) | (simp; done) | (simp; omega) | omega) ?_ | refine rG (fun _ z => z) ?_ | refine rG (fun _ z => ⟨_, rfl, z⟩) ?_) | (refine kO 4 rfl ?_; first | refine rSti rfl rfl rfl rfl rfl rfl (by first | omega | decide | exact Nat.le_of_ble_eq_true rfl | (dsimp only [SC.len]; omega) | (simp; done) | (simp; omega) | omega) ?_ | refine rG (fun _ z => z) ?_) | (refine kO 5 rfl ?_; first | refine rIdN rfl rfl rfl rfl rfl rfl rfl (by first | omega | decide | exact Nat.le_of_ble_eq_true rfl | (dsimp only [SC.len]; omega) | (simp; done) | (simp; omega) | omega) ?_ | refine rIdx rfl rfl rfl rfl rfl rfl rfl (by first | omega | decide | exact Nat.le_of_ble_eq_true rfl | (dsimp only [SC.len]; omega) | (simp; done) | (simp; omega) | omega) ?_ | refine rIdoN rfl rfl rfl rfl rfl rfl rfl rfl (by first | omega | decide | exact Nat.le_of_ble_eq_true rfl | (dsimp only [SC.len]; omega) | (simp; done) | (simp; omega) | omega) ?_ | refine rIdo rfl rfl rfl rfl rfl rfl rfl rfl (by first | omega | decide | exact Nat.le_of_ble_eq_true rfl | (dsimp only [SC.len]; omega) | (simp; done) | (simp; omega) | omega) ?_ | refine rIdvN rfl rfl rfl rfl rfl rfl (by first | assumption | rfl) rfl ?_) | (refine kO 7 rfl ?_; first | refine rG (fun _ z => ⟨_, s1, z⟩) ?_ | refine rG (fun _ z => ⟨_, s2, z⟩) ?_) | (refine kO 6 rfl ?_; first | refine rLen rfl rfl rfl rfl rfl rfl ?_ | refine rLenv rfl rfl rfl rfl rfl rfl ?_ | refine rLeno rfl rfl rfl rfl rfl rfl rfl ?_ | refine rLenov rfl rfl rfl rfl rfl rfl rfl ?_ | refine rG (fun _ z => z) ?_) | (refine kO 8 rfl ?_; first | refine rSlH rfl rfl rfl rfl rfl rfl rfl (by omega) ?_ | refine rSlL rfl rfl rfl rfl rfl rfl rfl (by omega) ?_ | refine rG (fun _ z => z) ?_) | refine oN ?_ | refine aS ?_ | refine aR ?_ | refine aK ?_ | refine aX ?_ | refine aB ?_ | refine aT ?_ | refine aC rfl ?_ | refine bT ?_ | refine bF ?_ | refine bPt (by omega) ?_ | refine bPf (by omega) ?_ | refine aL ?_ | refine aE ?_ | refine oY rfl rfl rfl ?_ | refine oZ rfl rfl rfl ?_ | refine oO rfl rfl rfl ?_ | refine oIt rfl rfl rfl (by omega) ?_ | refine oIf rfl rfl rfl (by omega) ?_ | refine oUt rfl rfl rfl (by omega) ?_ | refine oUf rfl rfl rfl (by omega) ?_ | refine dI (by kernel_rfl) ?_ | refine rG (fun _ z => ⟨(by (first | omega | decide | rfl | exact lnS (by omega) | exact lnN (by decide) | exact lnN (by omega) | exact lnC (by omega) | exact lvS (by omega) | exact lvN (by decide) | exact lvC (by omega) | exact uvS rfl | exact uvN rfl | ((try unfold SC.len); (try unfold SC.uni); (try unfold LIM); (try simp); (try omega); done) | omega)), z⟩) ?_ | refine rG (fun _ z => ⟨(by (first | omega | decide | rfl | exact lnS (by omega) | exact lnN (by decide) | exact lnN (by omega) | exact lnC (by omega) | exact lvS (by omega) | exact lvN (by decide) | exact lvC (by omega) | exact uvS rfl | exact uvN rfl | ((try unfold SC.len); (try unfold SC.uni); (try unfold LIM); (try simp); (try omega); done) | omega)), (by (first | omega | decide | rfl | exact lnS (by omega) | exact lnN (by decide) | exact lnN (by omega) | exact lnC (by omega) | exact lvS (by omega) | exact lvN (by decide) | exact lvC (by omega) | exact uvS rfl | exact uvN rfl | ((try unfold SC.len); (try unfold SC.uni); (try unfold LIM); (try simp); (try omega); done) | omega)), z⟩) ?_); (try conv => whnf))
    (first | done | rfl)
  · rw [if_pos h]
    generalize rulesErr e q ch = z at *
    refine Sat_of_awp (fn := f6) cx_ok (by kernel_rfl) (by kernel_rfl) rfl (by kernel_rfl) (Nat.le_of_ble_eq_true rfl) ?_
    repeat ((first | refine oP rfl ?_ | refine rP rfl (fun _ z => z) ?_ | (refine kO 1 rfl ?_; first | refine rAdd rfl rfl rfl (by omega) ?_ | refine rSub rfl rfl rfl (by omega) ?_ | refine rMul rfl rfl rfl (by omega) ?_ | refine rQuo rfl rfl rfl (by omega) ?_ | refine rRem rfl rfl rfl (by omega) ?_ | refine rQuo' rfl rfl rfl (by omega) ?_ | refine rRem' rfl rfl rfl (by omega) ?_ | refine rG (fun _ z => z) ?_) | (refine kO 2 rfl ?_; first | refine rNeg rfl rfl (by omega) ?_ | refine rG (fun _ z => z) ?_) | (refine kO 3 rfl ?_; first | refine rLdr rfl rfl rfl rfl rfl ?_ | refine rLdb rfl rfl rfl rfl rfl rfl rfl ?_ | refine rLdi rfl rfl rfl rfl rfl rfl (by first | omega | decide | exact Nat.le_of_ble_eq_true rfl | (dsimp only [SC.len]; omega) | (simp; done) | (simp; omega) | omega) ?_ | refine rG (fun _ z => z) ?_ | refine rG (fun _ z => ⟨_, rfl, z⟩) ?_) | (refine kO 4 rfl ?_; first | refine rSti rfl rfl rfl rfl rfl rfl (by first | omega | decide | exact Nat.le_of_ble_eq_true rfl | (dsimp only [SC.len]; omega) | (simp; done) | (simp; omega) | omega) ?_ | refine rG (fun _ z => z) ?_) | (refine kO 5 rfl ?_; first | refine rIdN rfl rfl rfl rfl rfl rfl rfl (by first | omega | decide | exact Nat.le_of_ble_eq_true rfl | (dsimp only [SC.len]; omega) | (simp; done) | (simp; omega) | omega) ?_ | refine rIdx rfl rfl rfl rfl rfl rfl rfl (by first | omega | decide | exact Nat.le_of_ble_eq_true rfl | (dsimp only [SC.len]; omega) | (simp; done) | (simp; omega) | omega) ?_ | refine rIdoN rfl rfl rfl rfl rfl rfl rfl rfl (by first | omega | decide | exact Nat.le_of_ble_eq_true rfl | (dsimp only [SC.len]; omega) | (simp; done) | (simp; omega) | omega) ?_ | refine rIdo rfl rfl rfl rfl rfl rfl rfl rfl (by first | omega | decide | exact Nat.le_of_ble_eq_true rfl | (dsimp only [SC.len]; omega) | (simp; done) | (simp; omega) | omega) ?_ | refine rIdvN rfl rfl rfl rfl rfl rfl (by first | assumption | rfl) rfl ?_) | (refine kO 7 rfl ?_; first | refine rG (fun _ z => ⟨_, s1, z⟩) ?_) | (refine kO 6 rfl ?_; first | refine rLen rfl rfl rfl rfl rfl rfl ?_ | refine rLenv rfl rfl rfl rfl rfl rfl ?_ | refine rLeno rfl rfl rfl rfl rfl rfl rfl ?_ | refine rLenov rfl rfl rfl rfl rfl rfl rfl ?_ | refine rG (fun _ z => z) ?_) | (refine kO 8 rfl ?_; first | refine rSlH rfl rfl rfl rfl rfl rfl rfl (by omega) ?_ | refine rSlL rfl rfl rfl rfl rfl rfl rfl (by omega) ?_ | refine rG (fun _ z => z) ?_) | refine oN ?_ | refine aS ?_ | refine aR ?_ | refine aK ?_ | refine aX ?_ | refine aB ?_ | refine aT ?_ | refine aC rfl ?_ | refine bT ?_ | refine bF ?_ | refine bPt (by omega) ?_ | refine bPf (by omega) ?_ | refine aL ?_ | refine aE ?_ | refine oY rfl rfl rfl ?_ | refine oZ rfl rfl rfl ?_ | refine oO rfl rfl rfl ?_ | refine oIt rfl rfl rfl (by omega) ?_ | refine oIf rfl rfl rfl (by omega) ?_ | refine oUt rfl rfl rfl (by omega) ?_ | refine oUf rfl rfl rfl (by omega) ?_ | refine dI (by kernel_rfl) ?_ | refine rG (fun _ z => ⟨(by (first | omega | decide | rfl | exact lnS (by omega) | exact lnN (by decide) | exact lnN (by omega) | exact lnC (by omega) | exact lvS (by omega) | exact lvN (by decide) | exact lvC (by omega) | exact uvS rfl | exact uvN rfl | ((try unfold SC.len); (try unfold SC.uni); (try unfold LIM); (try simp); (try omega); done) | omega)), z⟩) ?_ | refine rG (fun _ z => ⟨(by (first | omega | decide | rfl | exact lnS (by omega) | exact lnN (by decide) | exact lnN (by omega) | exact lnC (by omega) | exact lvS (by omega) | exact lvN (by decide) | exact lvC (by omega) | exact uvS rfl | exact uvN rfl | ((try unfold SC.len); (try unfold SC.uni); (try unfold LIM); (try simp); (try omega); done) | omega)), (by (first | omega | decide | rfl | exact lnS (by omega) | exact lnN (by decide) | exact lnN (by omega) | exact lnC (by omega) | exact lvS (by omega) | exact lvN (by decide) | exact lvC (by omega) | exact uvS rfl | exact uvN rfl | ((try unfold SC.len); (try unfold SC.uni); (try unfold LIM); (try simp); (try omega); done) | omega)), z⟩) ?_); (try conv => whnf))
    (first | done | rfl)
theorem open8_sat (e : Int) (q : Sp) (ch : List Sp) (st : Int) (l : List Int) (hq : SpI q) (hch : ∀ s ∈ ch, SpI s) (hc : ch.length ≤ 4294967296) (hl : l.length ≤ maxLen) : Sat cx.P cx.gl 41 [Ru e q ch, Rc st l] (.tup [Rr l e, I (bothErr e q ch st l)]) := by
  have s1 := checkRules_sat e q ch hq hch hc
  have s2 := checkRecord_sat st l hl
  have f := fs2 (rulesErr e q ch) (recErr st l)
  rw [show (if rulesErr e q ch ≠ 0 then rulesErr e q ch else recErr st l) = bothErr e q ch st l from rfl] at f
  rw [← f]
  refine Sat_of_awp (fn := f41) cx_ok (by kernel_rfl) (by kernel_rfl) rfl (by kernel_rfl) (Nat.le_of_ble_eq_true rfl) ?_
  repeat ((first | refine oP rfl ?_ | refine rP rfl (fun _ z => z) ?_ | (refine kO 1 rfl ?_; first | refine rAdd rfl rfl rfl (by omega) ?_ | refine rSub rfl rfl rfl (by omega) ?_ | refine rMul rfl rfl rfl (by omega) ?_ | refine rQuo rfl rfl rfl (by omega) ?_ | refine rRem rfl rfl rfl (by omega) ?_ | refine rQuo' rfl rfl rfl (by omega) ?_ | refine rRem' rfl rfl rfl (by omega) ?_ | refine rG (fun _ z => z) ?_) | (refine kO 2 rfl ?_; first | refine rNeg rfl rfl (by omega) ?_ | refine rG (fun _ z => z) ?_) | (refine kO 3 rfl ?_; first | refine rLdr rfl rfl rfl rfl rfl ?_ | refine rLdb rfl rfl rfl rfl rfl rfl rfl ?_ | refine rLdi rfl rfl rfl rfl rfl rfl (by first | omega | decide | exact Nat.le_of_ble_eq_true rfl | (dsimp only [SC.len]; omega) | (simp; done) | (simp; omega) | omega) ?_ | refine rG (fun _ z => z) ?_ | refine rG (fun _ z => ⟨_, rfl, z⟩) ?_) | (refine kO 4 rfl ?_; first | refine rSti rfl rfl rfl rfl rfl rfl (by first | omega | decide | exact Nat.le_of_ble_eq_true rfl | (dsimp only [SC.len]; omega) | (simp; done) | (simp; omega) | omega) ?_ | refine rG (fun _ z => z) ?_) | (refine kO 5 rfl ?_; first | refine rIdN rfl rfl rfl rfl rfl rfl rfl (by first | omega | decide | exact Nat.le_of_ble_eq_true rfl | (dsimp only [SC.len]; omega) | (simp; done) | (simp; omega) | omega) ?_ | refine rIdx rfl rfl rfl rfl rfl rfl rfl (by first | omega | decide | exact Nat.le_of_ble_eq_true rfl | (dsimp only [SC.len]; omega) | (simp; done) | (simp; omega) | omega) ?_ | refine rIdoN rfl rfl rfl rfl rfl rfl rfl rfl (by first | omega | decide | exact Nat.le_of_ble_eq_true rfl | (dsimp only [SC.len]; omega) | (simp; done) | (simp; omega) | omega) ?_ | refine rIdo rfl rfl rfl rfl rfl rfl rfl rfl (by first | omega | decide | exact Nat.le_of_ble_eq_true rfl | (dsimp only [SC.len]; omega) | (simp; done) | (simp; omega) | omega) ?_ | refine rIdvN rfl rfl rfl rfl rfl rfl (by first | assumption | rfl) rfl ?_) | (refine kO 7 rfl ?_; first | refine rG (fun _ z => ⟨_, s1, z⟩) ?_ | refine rG (fun _ z => ⟨_, s2, z⟩) ?_ | refine rG (fun _ z => ⟨_, wFirst_fs _ (Nat.le_of_ble_eq_true rfl), z⟩) ?_) | (refine kO 6 rfl ?_; first | refine rLen rfl rfl rfl rfl rfl rfl ?_ | refine rLenv rfl rfl rfl rfl rfl rfl ?_ | refine rLeno rfl rfl rfl rfl rfl rfl rfl ?_ | refine rLenov rfl rfl rfl rfl rfl rfl rfl ?_ | refine rG (fun _ z => z) ?_) | (refine kO 8 rfl ?_; first | refine rSlH rfl rfl rfl rfl rfl rfl rfl (by omega) ?_ | refine rSlL rfl rfl rfl rfl rfl rfl rfl (by omega) ?_ | refine rG (fun _ z => z) ?_) | refine oN ?_ | refine aS ?_ | refine aR ?_ | refine aK ?_ | refine aX ?_ | refine aB ?_ | refine aT ?_ | refine aC rfl ?_ | refine bT ?_ | refine bF ?_ | refine bPt (by omega) ?_ | refine bPf (by omega) ?_ | refine aL ?_ | refine aE ?_ | refine oY rfl rfl rfl ?_ | refine oZ rfl rfl rfl ?_ | refine oO rfl rfl rfl ?_ | refine oIt rfl rfl rfl (by omega) ?_ | refine oIf rfl rfl rfl (by omega) ?_ | refine oUt rfl rfl rfl (by omega) ?_ | refine oUf rfl rfl rfl (by omega) ?_ | refine dI (by kernel_rfl) ?_ | refine rG (fun _ z => ⟨(by (first | omega | decide | rfl | exact lnS (by omega) | exact lnN (by decide) | exact lnN (by omega) | exact lnC (by omega) | exact lvS (by omega) | exact lvN (by decide) | exact lvC (by omega) | exact uvS rfl | exact uvN rfl | ((try unfold SC.len); (try unfold SC.uni); (try unfold LIM); (try simp); (try omega); done) | omega)), z⟩) ?_ | refine rG (fun _ z => ⟨(by (first | omega | decide | rfl | exact lnS (by omega) | exact lnN (by decide) | exact lnN (by omega) | exact lnC (by omega) | exact lvS (by omega) | exact lvN (by decide) | exact lvC (by omega) | exact uvS rfl | exact uvN rfl | ((try unfold SC.len); (try unfold SC.uni); (try unfold LIM); (try simp); (try omega); done) | omega)), (by (first | omega | decide | rfl | exact lnS (by omega) | exact lnN (by decide) | exact lnN (by omega) | exact lnC (by omega) | exact lvS (by omega) | exact lvN (by decide) | exact lvC (by omega) | exact uvS rfl | exact uvN rfl | ((try unfold SC.len); (try unfold SC.uni); (try unfold LIM); (try simp); (try omega); done) | omega)), z⟩) ?_); (try conv => whnf))
  (first | done | rfl)
abbrev bRu (e : Int) (q : Sp) (ch : List Sp) : Option Blk := some (.box 28 [.st (J e), .st (J q.1), .st (J q.2.1), .st (J q.2.2.1), .st (J q.2.2.2), .st (.view (ch.map sp))])
abbrev bRc (st : Int) (l : List Int) : Option Blk := some (.box 31 [.st (J st), .st (.ints l)])
abbrev bRg (a b : Int) : Option Blk := some (.box 54 [.st (J a), .st (J b)])
end Go.Proofs.Tryz

namespace Go.Proofs.Tryz
open Go.Fw Go.IntWalk Go.Plain
set_option maxRecDepth 100000
set_option maxHeartbeats 8000000
abbrev F9 (a b c d e f g h i : Int) : SV := (true, [J a, J b, J c, J d, J e, J f, J g, J h, J i])
abbrev vB (b : Bool) : Option DV := some (.val (false, [.st (.lit (.bool b))]))
abbrev in63 (n : Int) : Prop := 0 ≤ n ∧ n ≤ 63
abbrev inPk (n : Int) : Prop := 1 ≤ n ∧ n ≤ 4196
abbrev figIn (t p q a b c d e f : Int) : Prop := (in63 t ∧ inPk p ∧ inPk q) ∧ (in63 a ∧ in63 b) ∧ (in63 c ∧ in63 d) ∧ in63 e ∧ in63 f
abbrev figOrd (p q a b c d e f : Int) : Prop := p ≤ q ∧ a ≤ b ∧ c ≤ d ∧ e ≤ f
/-- The error of figures. -/
def figErr (t p q a b c d e f : Int) : Int := if figIn t p q a b c d e f then (if figOrd p q a b c d e f then 0 else 9) else 2
def chkIn (b0 b1 b2 b3 : Bool) : Nat → Bool
  | 0 => b0
  | 1 => b0 && b1
  | 2 => (b0 && b1) && b2
  | _ => ((b0 && b1) && b2) && b3
theorem figErr_eq (t p q a b c d e f : Int) : fs [if chkIn (decide (in63 t) && decide (inPk p) && decide (inPk q)) (decide (in63 a) && decide (in63 b)) (decide (in63 c) && decide (in63 d)) (decide (in63 e) && decide (in63 f)) 3 = true then 0 else 2, if chkIn (decide (p ≤ q)) (decide (a ≤ b)) (decide (c ≤ d)) (decide (e ≤ f)) 3 = true then 0 else 9] = figErr t p q a b c d e f := by
  unfold figErr chkIn
  simp only [← Bool.decide_and, decide_eq_true_eq]
  by_cases h : figIn t p q a b c d e f
  · rw [if_pos h, if_pos (by obtain ⟨⟨h1, h2, h3⟩, h4, h5, h6⟩ := h; exact ⟨⟨⟨⟨⟨h1, h2⟩, h3⟩, h4⟩, h5⟩, h6⟩)]
    by_cases h' : figOrd p q a b c d e f
    · rw [if_pos h', if_pos (by obtain ⟨k1, k2, k3, k4⟩ := h'; exact ⟨⟨⟨k1, k2⟩, k3⟩, k4⟩)]; rfl
    · rw [if_neg h', if_neg (by intro k; exact h' ⟨k.1.1.1, k.1.1.2, k.1.2, k.2⟩)]; rfl
  · rw [if_neg h, if_neg (by intro k; exact h ⟨⟨k.1.1.1.1.1, k.1.1.1.1.2, k.1.1.1.2⟩, k.1.1.2, k.1.2, k.2⟩)]; simp [fs]
end Go.Proofs.Tryz

namespace Go.Proofs.Tryz
open Go.Fw Go.IntWalk Go.Plain
set_option maxRecDepth 100000
set_option maxHeartbeats 8000000
def t30l (l : List Int) (e : Int) : Int := fF (lvLo e 3 (pkV l - e)) l 0
def t30h (l : List Int) (e : Int) : Int := fF (lvHi e 3 (pkV l + e)) l 0
def t90l (l : List Int) (e : Int) : Int := fF (lvLo e 9 (pkV l - e)) l 0
def t90h (l : List Int) (e : Int) : Int := fF (lvHi e 9 (pkV l + e)) l 0
def hfl (l : List Int) (e : Int) : Int := fF (hfLo e (pkV l + e)) l (pk l + 1)
def hfh (l : List Int) (e : Int) : Int := fF (hfHi e (pkV l - e)) l (pk l + 1)
/-- The figures of a record. -/
abbrev FG (l : List Int) (e : Int) : SV := F9 (pk l : Nat) (pkV l - e) (pkV l + e) (t30l l e) (t30h l e) (t90l l e) (t90h l e) (hfl l e) (hfh l e)
def fgErr (l : List Int) (e : Int) : Int := if pkV l - e ≤ 0 then 21 else if t30h l e < 0 ∨ t90h l e < 0 ∨ hfh l e < 0 then 12 else 0
def figE (e : Int) (q : Sp) (ch : List Sp) (st : Int) (l : List Int) : Int := if bothErr e q ch st l ≠ 0 then bothErr e q ch st l else fgErr l e
theorem min3 (a b c : Int) : (if c < (if b < a then b else a) then c else if b < a then b else a) < 0 ↔ a < 0 ∨ b < 0 ∨ c < 0 := by
  (repeat' split) <;> omega
theorem peakOf8_sat (e : Int) (q : Sp) (ch : List Sp) (st : Int) (l : List Int) (hq : SpI q) (hch : ∀ s ∈ ch, SpI s) (hc : ch.length ≤ 4294967296) (hl : l.length ≤ maxLen) : Sat cx.P cx.gl 19 [Ru e q ch, Rc st l] (.tup (if bothErr e q ch st l = 0 then [I (pk l : Nat), F2 (pkV l - e) (pkV l + e), I 0] else [I 0, F2 0 0, I (bothErr e q ch st l)])) := by
  have s1 := open8_sat e q ch st l hq hch hc hl
  by_cases h : bothErr e q ch st l = 0
  · rw [if_pos h]
    rw [h] at s1
    obtain ⟨h1, h2⟩ := bothErr_zero h
    obtain ⟨he, _⟩ := rulesErr_zero h1
    obtain ⟨_, k1, k2, k3⟩ := recErr_zero h2
    have s2 := peak8_sat (l := l) (e := e) (by omega) hl k3 (by omega)
    refine Sat_of_awp (fn := f19) cx_ok (by kernel_rfl) (by kernel_rfl) rfl (by kernel_rfl) (Nat.le_of_ble_eq_true rfl) ?_
    repeat ((first | refine oP rfl ?_ | refine rP rfl (fun _ z => z) ?_ | (refine kO 1 rfl ?_; refine rG (fun _ z => z) ?_) | (refine kO 3 rfl ?_; refine rG (fun _ z => z) ?_) | (refine kO 4 rfl ?_; refine rG (fun _ z => z) ?_) | (refine kO 7 rfl ?_; first | refine rG (fun _ z => ⟨_, s1, z⟩) ?_ | refine rG (fun _ z => ⟨_, s2, z⟩) ?_) | refine oN ?_ | refine aS ?_ | refine aR ?_ | refine aK ?_ | refine aT ?_ | refine aC rfl ?_ | refine bF ?_ | refine dI (by kernel_rfl) ?_); (try conv => whnf))
    (rfl)
  · rw [if_neg h]
    generalize bothErr e q ch st l = z at *
    refine Sat_of_awp (fn := f19) cx_ok (by kernel_rfl) (by kernel_rfl) rfl (by kernel_rfl) (Nat.le_of_ble_eq_true rfl) ?_
    repeat ((first | refine oP rfl ?_ | refine rP rfl (fun _ z => z) ?_ | (refine kO 1 rfl ?_; refine rG (fun _ z => z) ?_) | (refine kO 3 rfl ?_; refine rG (fun _ z => z) ?_) | (refine kO 4 rfl ?_; refine rG (fun _ z => z) ?_) | (refine kO 7 rfl ?_; refine rG (fun _ z => ⟨_, s1, z⟩) ?_) | refine oN ?_ | refine aS ?_ | refine aR ?_ | refine aT ?_ | refine aC rfl ?_ | refine bPt (by omega) ?_); (try conv => whnf))
    (rfl)
theorem figuresOf_sat (e : Int) (q : Sp) (ch : List Sp) (st : Int) (l : List Int) (hq : SpI q) (hch : ∀ s ∈ ch, SpI s) (hc : ch.length ≤ 4294967296) (hl : l.length ≤ maxLen) : Sat cx.P cx.gl 24 [Ru e q ch, Rc st l] (.tup (if figE e q ch st l = 0 then [FG l e, I 0] else [F9 0 0 0 0 0 0 0 0 0, I (figE e q ch st l)])) := by
  have s1 := open8_sat e q ch st l hq hch hc hl
  by_cases h : bothErr e q ch st l = 0
  · have hfe : figE e q ch st l = fgErr l e := by unfold figE; rw [if_neg (by omega)]
    rw [hfe]
    clear hfe
    rw [h] at s1
    obtain ⟨h1, h2⟩ := bothErr_zero h
    obtain ⟨he, _⟩ := rulesErr_zero h1
    obtain ⟨_, k1, k2, k3⟩ := recErr_zero h2
    have hv := pkV_in (by omega) k3
    have hp : pk l < l.length := pkT_lt (by omega)
    have s2 := peak8_sat (l := l) (e := e) (by omega) hl k3 (by omega)
    have s3 := level_sat (l := l) (e := e) (t := 3) (x := pkV l - e) (y := pkV l + e) hl k3 (by omega) (by omega) (by omega) (by omega)
    have s4 := level_sat (l := l) (e := e) (t := 9) (x := pkV l - e) (y := pkV l + e) hl k3 (by omega) (by omega) (by omega) (by omega)
    have s5 := half_sat (l := l) (e := e) (x := pkV l - e) (y := pkV l + e) hp hl k3 (by omega)
    change Sat cx.P cx.gl _ _ (.one (F2 (t30l l e) (t30h l e))) at s3
    change Sat cx.P cx.gl _ _ (.one (F2 (t90l l e) (t90h l e))) at s4
    change Sat cx.P cx.gl _ _ (.one (F2 (hfl l e) (hfh l e))) at s5
    unfold fgErr
    by_cases hz : pkV l - e ≤ 0
    · rw [if_pos hz, if_neg (by omega)]
      refine Sat_of_awp (fn := f24) cx_ok (by kernel_rfl) (by kernel_rfl) rfl (by kernel_rfl) (Nat.le_of_ble_eq_true rfl) ?_
      repeat ((first | refine oP rfl ?_ | refine rP rfl (fun _ z => z) ?_ | (refine kO 1 rfl ?_; refine rG (fun _ z => z) ?_) | (refine kO 3 rfl ?_; first | refine rLdb rfl rfl rfl rfl rfl rfl rfl ?_ | refine rG (fun _ z => z) ?_) | (refine kO 4 rfl ?_; refine rG (fun _ z => z) ?_) | (refine kO 7 rfl ?_; first | refine rG (fun _ z => ⟨_, s1, z⟩) ?_ | refine rG (fun _ z => ⟨_, s2, z⟩) ?_) | refine oN ?_ | refine aS ?_ | refine aR ?_ | refine aK ?_ | refine aT ?_ | refine aC rfl ?_ | refine bF ?_ | refine bPt (by omega) ?_); (try conv => whnf))
      (rfl)
    · rw [if_neg hz]
      have m := min3 (t30h l e) (t90h l e) (hfh l e)
      by_cases k : t30h l e < 0 ∨ t90h l e < 0 ∨ hfh l e < 0
      · rw [if_pos k, if_neg (by omega)]
        refine Sat_of_awp (fn := f24) cx_ok (by kernel_rfl) (by kernel_rfl) rfl (by kernel_rfl) (Nat.le_of_ble_eq_true rfl) ?_
        repeat ((first | refine oP rfl ?_ | refine rP rfl (fun _ z => z) ?_ | (refine kO 1 rfl ?_; refine rG (fun _ z => z) ?_) | (refine kO 3 rfl ?_; first | refine rLdb rfl rfl rfl rfl rfl rfl rfl ?_ | refine rG (fun _ z => z) ?_) | (refine kO 4 rfl ?_; refine rG (fun _ z => z) ?_) | (refine kO 7 rfl ?_; first | refine rG (fun _ z => ⟨_, s1, z⟩) ?_ | refine rG (fun _ z => ⟨_, s2, z⟩) ?_ | refine rG (fun _ z => ⟨_, s3, z⟩) ?_ | refine rG (fun _ z => ⟨_, s4, z⟩) ?_ | refine rG (fun _ z => ⟨_, s5, z⟩) ?_) | (refine kO 6 rfl ?_; refine rG (fun _ z => z) ?_) | refine oN ?_ | refine aS ?_ | refine aR ?_ | refine aK ?_ | refine aC rfl ?_ | refine bF ?_ | refine bPf (by omega) ?_ | refine dI (by kernel_rfl) ?_); (try conv => whnf))
        ((refine brp (fun h => ?_) (fun h => ?_)) <;> (try conv => whnf))
        · repeat ((first | refine oP rfl ?_ | refine rP rfl (fun _ z => z) ?_ | (refine kO 4 rfl ?_; refine rG (fun _ z => z) ?_) | refine oN ?_ | refine aS ?_ | refine aR ?_ | refine aT ?_); (try conv => whnf))
          (rfl)
        · exact absurd (m.2 k) h
      · rw [if_neg k, if_pos rfl]
        refine Sat_of_awp (fn := f24) cx_ok (by kernel_rfl) (by kernel_rfl) rfl (by kernel_rfl) (Nat.le_of_ble_eq_true rfl) ?_
        repeat ((first | refine oP rfl ?_ | refine rP rfl (fun _ z => z) ?_ | (refine kO 1 rfl ?_; refine rG (fun _ z => z) ?_) | (refine kO 3 rfl ?_; first | refine rLdb rfl rfl rfl rfl rfl rfl rfl ?_ | refine rG (fun _ z => z) ?_) | (refine kO 4 rfl ?_; refine rG (fun _ z => z) ?_) | (refine kO 7 rfl ?_; first | refine rG (fun _ z => ⟨_, s1, z⟩) ?_ | refine rG (fun _ z => ⟨_, s2, z⟩) ?_ | refine rG (fun _ z => ⟨_, s3, z⟩) ?_ | refine rG (fun _ z => ⟨_, s4, z⟩) ?_ | refine rG (fun _ z => ⟨_, s5, z⟩) ?_) | (refine kO 6 rfl ?_; refine rG (fun _ z => z) ?_) | refine oN ?_ | refine aS ?_ | refine aR ?_ | refine aK ?_ | refine aC rfl ?_ | refine bF ?_ | refine bPf (by omega) ?_ | refine dI (by kernel_rfl) ?_); (try conv => whnf))
        ((refine brp (fun h => ?_) (fun h => ?_)) <;> (try conv => whnf))
        · exact absurd (m.1 h) k
        · repeat ((first | refine oP rfl ?_ | refine rP rfl (fun _ z => z) ?_ | (refine kO 3 rfl ?_; refine rG (fun _ z => z) ?_) | (refine kO 4 rfl ?_; refine rG (fun _ z => z) ?_) | refine oN ?_ | refine aS ?_ | refine aR ?_ | refine aK ?_ | refine aT ?_); (try conv => whnf))
          (rfl)
  · have hfe : figE e q ch st l = bothErr e q ch st l := by unfold figE; rw [if_pos h]
    rw [hfe, if_neg h]
    generalize bothErr e q ch st l = z at *
    refine Sat_of_awp (fn := f24) cx_ok (by kernel_rfl) (by kernel_rfl) rfl (by kernel_rfl) (Nat.le_of_ble_eq_true rfl) ?_
    repeat ((first | refine oP rfl ?_ | refine rP rfl (fun _ z => z) ?_ | (refine kO 1 rfl ?_; refine rG (fun _ z => z) ?_) | (refine kO 3 rfl ?_; refine rG (fun _ z => z) ?_) | (refine kO 4 rfl ?_; refine rG (fun _ z => z) ?_) | (refine kO 7 rfl ?_; refine rG (fun _ z => ⟨_, s1, z⟩) ?_) | refine oN ?_ | refine aS ?_ | refine aR ?_ | refine aT ?_ | refine aC rfl ?_ | refine bPt (by omega) ?_); (try conv => whnf))
    (rfl)
end Go.Proofs.Tryz
