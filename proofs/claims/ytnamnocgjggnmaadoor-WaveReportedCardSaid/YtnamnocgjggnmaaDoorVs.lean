/- Parts of the proof, joined. -/
import Derived.Test.YtnamnocgjggnmaaDoorVa
import Derived.Test.YtnamnocgjggnmaaDoorM
import Derived.Test.YtnamnocgjggnmaaDoorWf
namespace Go.Proofs.Tryd
open Go.Fw Go.IntWalk Go.Plain
set_option maxRecDepth 100000
set_option maxHeartbeats 8000000
theorem wideInt1 (u : Int) (hu : 0 ≤ u ∧ u < 1000000000) : Sat cx.P cx.gl 120 [Wd 1 [u]] (.tup [I u, Bo true]) := by
  have hl : ([u] : List Int).length = 1 := rfl
  have hg : ([u] : List Int).getD ((([u] : List Int).length : Int) - 1).toNat 0 = u := rfl
  refine Sat_of_awp (fn := f120) cx_ok (by kernel_rfl) (by kernel_rfl) rfl (by kernel_rfl) (Nat.le_of_ble_eq_true rfl) ?_
  repeat ((first | refine oP rfl ?_ | refine rP rfl (fun _ z => z) ?_ | (refine kO 1 rfl ?_; first | refine rSub rfl rfl rfl (by omega) ?_ | refine rG (fun _ z => z) ?_) | (refine kO 3 rfl ?_; refine rLdb rfl rfl rfl rfl rfl rfl rfl ?_) | (refine kO 6 rfl ?_; refine rLen rfl rfl rfl rfl rfl rfl ?_) | refine oN ?_ | refine aS ?_ | refine aR ?_ | refine aK ?_ | refine aB ?_ | refine aC rfl ?_ | refine bF ?_ | refine aL ?_); (try conv => whnf))
  refine loop_round ?_
  repeat ((first | refine oP rfl ?_ | refine rP rfl (fun _ z => z) ?_ | (refine kO 1 rfl ?_; first | refine rAdd rfl rfl rfl (by omega) ?_ | refine rSub rfl rfl rfl (by omega) ?_ | refine rMul rfl rfl rfl (by omega) ?_ | refine rG (fun _ z => z) ?_) | (refine kO 3 rfl ?_; first | refine rLdr rfl rfl rfl rfl rfl ?_ | refine rLdb rfl rfl rfl rfl rfl rfl rfl ?_) | (refine kO 5 rfl ?_; refine rIdx rfl rfl rfl rfl rfl rfl rfl (by omega) ?_) | refine oN ?_ | refine aS ?_ | refine aR ?_ | refine aK ?_ | refine aB ?_ | refine aC rfl ?_ | refine bT ?_); (try conv => whnf))
  refine loop_round ?_
  repeat ((first | refine oP rfl ?_ | refine rP rfl (fun _ z => z) ?_ | (refine kO 1 rfl ?_; first | refine rMul rfl rfl rfl (by omega) ?_ | refine rG (fun _ z => z) ?_) | (refine kO 3 rfl ?_; refine rLdb rfl rfl rfl rfl rfl rfl rfl ?_) | refine oN ?_ | refine aS ?_ | refine aR ?_ | refine aX ?_ | refine aT ?_ | refine aC rfl ?_ | refine bF ?_); (try conv => whnf))
  simp
theorem wideInt2 (u v : Int) (hu : 0 ≤ u ∧ u < 1000000000) (hv : 0 ≤ v ∧ v < 1000000000) : Sat cx.P cx.gl 120 [Wd 1 [u, v]] (.tup [I (v * 1000000000 + u), Bo true]) := by
  have hl : ([u, v] : List Int).length = 2 := rfl
  have hg : ([u, v] : List Int).getD ((([u, v] : List Int).length : Int) - 1).toNat 0 = v := rfl
  have hg' : ([u, v] : List Int).getD ((([u, v] : List Int).length : Int) - 1 - 1).toNat 0 = u := rfl
  refine Sat_of_awp (fn := f120) cx_ok (by kernel_rfl) (by kernel_rfl) rfl (by kernel_rfl) (Nat.le_of_ble_eq_true rfl) ?_
  repeat ((first | refine oP rfl ?_ | refine rP rfl (fun _ z => z) ?_ | (refine kO 1 rfl ?_; first | refine rSub rfl rfl rfl (by omega) ?_ | refine rG (fun _ z => z) ?_) | (refine kO 3 rfl ?_; refine rLdb rfl rfl rfl rfl rfl rfl rfl ?_) | (refine kO 6 rfl ?_; refine rLen rfl rfl rfl rfl rfl rfl ?_) | refine oN ?_ | refine aS ?_ | refine aR ?_ | refine aK ?_ | refine aB ?_ | refine aC rfl ?_ | refine bF ?_ | refine aL ?_); (try conv => whnf))
  refine loop_round ?_
  repeat ((first | refine oP rfl ?_ | refine rP rfl (fun _ z => z) ?_ | (refine kO 1 rfl ?_; first | refine rAdd rfl rfl rfl (by omega) ?_ | refine rSub rfl rfl rfl (by omega) ?_ | refine rMul rfl rfl rfl (by omega) ?_ | refine rG (fun _ z => z) ?_) | (refine kO 3 rfl ?_; first | refine rLdr rfl rfl rfl rfl rfl ?_ | refine rLdb rfl rfl rfl rfl rfl rfl rfl ?_) | (refine kO 5 rfl ?_; refine rIdx rfl rfl rfl rfl rfl rfl rfl (by omega) ?_) | refine oN ?_ | refine aS ?_ | refine aR ?_ | refine aK ?_ | refine aB ?_ | refine aC rfl ?_ | refine bT ?_); (try conv => whnf))
  refine loop_round ?_
  repeat ((first | refine oP rfl ?_ | refine rP rfl (fun _ z => z) ?_ | (refine kO 1 rfl ?_; first | refine rAdd rfl rfl rfl (by omega) ?_ | refine rSub rfl rfl rfl (by omega) ?_ | refine rMul rfl rfl rfl (by omega) ?_ | refine rG (fun _ z => z) ?_) | (refine kO 3 rfl ?_; first | refine rLdr rfl rfl rfl rfl rfl ?_ | refine rLdb rfl rfl rfl rfl rfl rfl rfl ?_) | (refine kO 5 rfl ?_; refine rIdx rfl rfl rfl rfl rfl rfl rfl (by omega) ?_) | refine oN ?_ | refine aS ?_ | refine aR ?_ | refine aK ?_ | refine aB ?_ | refine aC rfl ?_ | refine bT ?_); (try conv => whnf))
  refine loop_round ?_
  repeat ((first | refine oP rfl ?_ | refine rP rfl (fun _ z => z) ?_ | (refine kO 1 rfl ?_; first | refine rMul rfl rfl rfl (by omega) ?_ | refine rG (fun _ z => z) ?_) | (refine kO 3 rfl ?_; refine rLdb rfl rfl rfl rfl rfl rfl rfl ?_) | refine oN ?_ | refine aS ?_ | refine aR ?_ | refine aX ?_ | refine aT ?_ | refine aC rfl ?_ | refine bF ?_); (try conv => whnf))
  simp
theorem wideInt_sat {x : Int} (hx : 0 < x ∧ x < 1000000000000000000) : Sat cx.P cx.gl 120 [wd x] (.tup [I x, Bo true]) := by
  have fx := sgn_facts x
  have e : x.sign = 1 := by omega
  unfold wd
  rw [e, digs_pos (n := x.natAbs) (by omega)]
  by_cases h : x.natAbs / 1000000000 = 0
  · rw [h, digs_zero]
    have := wideInt1 ((x.natAbs % 1000000000 : Nat) : Int) (by omega)
    rwa [show ((x.natAbs % 1000000000 : Nat) : Int) = x by omega] at this ⊢
  · rw [digs_pos h, show x.natAbs / 1000000000 / 1000000000 = 0 by omega, digs_zero]
    have := wideInt2 ((x.natAbs % 1000000000 : Nat) : Int) ((x.natAbs / 1000000000 % 1000000000 : Nat) : Int) (by omega) (by omega)
    rwa [show ((x.natAbs / 1000000000 % 1000000000 : Nat) : Int) * 1000000000 + ((x.natAbs % 1000000000 : Nat) : Int) = x by omega] at this
theorem ratioFrac_sat {n d : Int} (hn : 0 < n ∧ n < 1000000000000000000) (hd : 0 < d ∧ d < 1000000000000000000) : Sat cx.P cx.gl 83 [rt n d] (.tup (if n ≤ 1000000000 ∧ d ≤ 1000000000 then [F2 n d, Bo true] else [F2 0 0, Bo false])) := by
  have g1 := wideInt_sat hn
  have g2 := wideInt_sat hd
  by_cases h : n ≤ 1000000000 ∧ d ≤ 1000000000
  · rw [if_pos h]
    refine Sat_of_awp (fn := f83) cx_ok (by kernel_rfl) (by kernel_rfl) rfl (by kernel_rfl) (Nat.le_of_ble_eq_true rfl) ?_
    repeat ((first | refine oP rfl ?_ | refine rP rfl (fun _ z => z) ?_ | (refine kO 2 rfl ?_; refine rG (fun _ z => z) ?_) | (refine kO 3 rfl ?_; refine rG (fun _ z => z) ?_) | (refine kO 4 rfl ?_; refine rG (fun _ z => z) ?_) | (refine kO 7 rfl ?_; first | refine rG (fun _ z => ⟨_, g1, z⟩) ?_ | refine rG (fun _ z => ⟨_, g2, z⟩) ?_ | refine rG (fun _ z => ⟨_, isSmall_sat _ _, z⟩) ?_) | refine oN ?_ | refine aS ?_ | refine aR ?_ | refine aK ?_ | refine aT ?_ | refine aC rfl ?_ | refine bPf (by omega) ?_ | refine oY rfl rfl rfl ?_); (try conv => whnf))
    (rfl)
  · rw [if_neg h]
    refine Sat_of_awp (fn := f83) cx_ok (by kernel_rfl) (by kernel_rfl) rfl (by kernel_rfl) (Nat.le_of_ble_eq_true rfl) ?_
    repeat ((first | refine oP rfl ?_ | refine rP rfl (fun _ z => z) ?_ | (refine kO 2 rfl ?_; refine rG (fun _ z => z) ?_) | (refine kO 3 rfl ?_; refine rG (fun _ z => z) ?_) | (refine kO 4 rfl ?_; refine rG (fun _ z => z) ?_) | (refine kO 7 rfl ?_; first | refine rG (fun _ z => ⟨_, g1, z⟩) ?_ | refine rG (fun _ z => ⟨_, g2, z⟩) ?_ | refine rG (fun _ z => ⟨_, isSmall_sat _ _, z⟩) ?_) | refine oN ?_ | refine aS ?_ | refine aR ?_ | refine aT ?_ | refine aC rfl ?_ | refine bPt (by omega) ?_ | refine oY rfl rfl rfl ?_); (try conv => whnf))
    (rfl)
/-! ### The scale -/
def scStep (s q : Sp) : Sp := (lowNum (s.1 * q.1) (s.2.1 * q.2.1), lowDen (s.1 * q.1) (s.2.1 * q.2.1), lowNum (s.2.2.1 * q.2.2.1) (s.2.2.2 * q.2.2.2), lowDen (s.2.2.1 * q.2.2.1) (s.2.2.2 * q.2.2.2))
def scT (ch : List Sp) (k : Nat) : Sp := (ch.take k).foldl scStep (1, 1, 1, 1)
theorem scT_succ {ch : List Sp} {k : Nat} (h : k < ch.length) : scT ch (k + 1) = scStep (scT ch k) (ch.getD k (0, 0, 0, 0)) := by
  unfold scT
  rw [List.take_succ_eq_append_getElem h, List.foldl_append]
  simp [List.getD_eq_getElem?_getD, h]
def scOf (ch : List Sp) : Sp := scT ch ch.length
abbrev scB (B : Int) (s : Sp) : Prop := (1 ≤ s.1 ∧ s.1 ≤ B) ∧ (1 ≤ s.2.1 ∧ s.2.1 ≤ B) ∧ (1 ≤ s.2.2.1 ∧ s.2.2.1 ≤ B) ∧ 1 ≤ s.2.2.2 ∧ s.2.2.2 ≤ B
theorem facErr_zero {q : Sp} (h : facErr q = 0) : scB 1000 q ∧ Int.gcd q.1 q.2.1 = 1 ∧ Int.gcd q.2.2.1 q.2.2.2 = 1 ∧ ¬ q.2.2.1 * q.2.1 < q.1 * q.2.2.2 := by
  unfold facErr at h
  split at h
  · rename_i h1
    split at h
    · rename_i h2
      split at h
      · omega
      · rename_i h3
        exact ⟨by omega, h1.1.2, h1.2.2, h3⟩
    · omega
  · omega
theorem low_pos1 {n d B : Int} (hn : 1 ≤ n ∧ n ≤ B) (hd : 1 ≤ d ∧ d ≤ B) : (1 ≤ lowNum n d ∧ lowNum n d ≤ B) ∧ 1 ≤ lowDen n d ∧ lowDen n d ≤ B := by
  have h1 := low_le (show 0 ≤ n by omega) (show 0 < d by omega)
  have h2 := lowNum_nonneg (n := n) (d := d) (by omega)
  have h3 := lowDen_pos (n := n) (show 0 < d by omega)
  have h4 := low_num_eq n d
  have h5 : lowNum n d ≠ 0 := by intro e; rw [e, Int.mul_zero] at h4; omega
  omega
theorem mulP {a b A B : Int} (ha : 1 ≤ a ∧ a ≤ A) (hb : 1 ≤ b ∧ b ≤ B) : 1 ≤ a * b ∧ a * b ≤ A * B := by
  have h1 : 1 * 1 ≤ a * b := Int.mul_le_mul ha.1 hb.1 (by omega) (by omega)
  have h2 : a * b ≤ A * B := Int.mul_le_mul ha.2 hb.2 (by omega) (by omega)
  omega
theorem scStep_B {s q : Sp} {B : Int} (hs : scB B s) (hq : scB 1000 q) : scB (B * 1000) (scStep s q) := by
  obtain ⟨s1, s2, s3, s4⟩ := hs
  obtain ⟨q1, q2, q3, q4⟩ := hq
  have a := low_pos1 (mulP s1 q1) (mulP s2 q2)
  have b := low_pos1 (mulP s3 q3) (mulP s4 q4)
  exact ⟨a.1, a.2, b.1, b.2⟩
theorem scT_B {ch : List Sp} (hc : ∀ q ∈ ch, facErr q = 0) : ∀ k, k ≤ ch.length → scB (1000 ^ k) (scT ch k) := by
  intro k
  induction k with
  | zero => intro _; unfold scT; simp
  | succ k ih =>
    intro hk
    rw [scT_succ hk, Int.pow_succ]
    exact scStep_B (ih (by omega)) (facErr_zero (hc _ (sp_mem hk))).1
theorem pow4 {k : Nat} (h : k ≤ 4) : (1000 : Int) ^ k ≤ 1000000000000 := by
  rcases (show k = 0 ∨ k = 1 ∨ k = 2 ∨ k = 3 ∨ k = 4 by omega) with rfl | rfl | rfl | rfl | rfl <;> decide
theorem scT_B4 {ch : List Sp} (hc : ∀ q ∈ ch, facErr q = 0) (hl : ch.length ≤ 4) {k : Nat} (hk : k ≤ ch.length) : scB 1000000000000 (scT ch k) := by
  have h := scT_B hc k hk
  have := pow4 (k := k) (by omega)
  omega
theorem rulesErr_zero {e : Int} {q : Sp} {ch : List Sp} (h : rulesErr e q ch = 0) : (0 ≤ e ∧ e ≤ 100) ∧ facErr q = 0 ∧ ch.length ≤ 4 ∧ ∀ s ∈ ch, facErr s = 0 := by
  unfold rulesErr at h
  split at h
  · rename_i h1
    split at h
    · exact absurd h (by assumption)
    · rename_i h2
      split at h
      · rename_i h3
        refine ⟨h1, by omega, h3, ?_⟩
        clear h2 h3
        induction ch with
        | nil => intro s hs; cases hs
        | cons x ch ih =>
          simp only [List.map_cons, fs] at h
          by_cases hx : facErr x = 0
          · rw [if_neg (by omega)] at h
            intro s hs
            rcases List.mem_cons.1 hs with rfl | hs
            · exact hx
            · exact ih h s hs
          · rw [if_pos hx] at h; omega
      · omega
  · omega
theorem wProduct_sat {a b c d : Int} (ha : 1 ≤ a ∧ a ≤ 1000000000000) (hb : 1 ≤ b ∧ b ≤ 1000000000000) (hc : 1 ≤ c ∧ c ≤ 1000) (hd : 1 ≤ d ∧ d ≤ 1000) : Sat cx.P cx.gl 71 [F2 a b, F2 c d] (.one (F2 (lowNum (a * c) (b * d)) (lowDen (a * c) (b * d)))) := by
  have m1 := mulP ha hc
  have m2 := mulP hb hd
  have g := wLowest_sat (a * c) (b * d) ⟨by omega, by omega⟩ (by omega)
  refine Sat_of_awp (fn := f71) cx_ok (by kernel_rfl) (by kernel_rfl) rfl (by kernel_rfl) (Nat.le_of_ble_eq_true rfl) ?_
  repeat ((first | refine oP rfl ?_ | refine rP rfl (fun _ z => z) ?_ | (refine kO 1 rfl ?_; refine rMul rfl rfl rfl (by omega) ?_) | (refine kO 3 rfl ?_; refine rLdb rfl rfl rfl rfl rfl rfl rfl ?_) | (refine kO 4 rfl ?_; refine rG (fun _ z => z) ?_) | (refine kO 7 rfl ?_; refine rG (fun _ z => ⟨_, g, z⟩) ?_) | refine oN ?_ | refine aS ?_ | refine aR ?_ | refine aT ?_); (try conv => whnf))
  (rfl)
abbrev scSmall (s : Sp) : Prop := (s.1 ≤ 1000000000 ∧ s.2.1 ≤ 1000000000) ∧ s.2.2.1 ≤ 1000000000 ∧ s.2.2.2 ≤ 1000000000
def scErr (e : Int) (q : Sp) (ch : List Sp) : Int := if rulesErr e q ch ≠ 0 then rulesErr e q ch else if scSmall (scOf ch) then 0 else 8
theorem scaleOf_sat (e : Int) (q : Sp) (ch : List Sp) (hq : SpI q) (hch : ∀ s ∈ ch, SpI s) (hl : ch.length ≤ 4294967296) : Sat cx.P cx.gl 18 [Ru e q ch] (.tup (if scErr e q ch = 0 then [(true, sp (scOf ch)), I 0] else [F4 0 0 0 0, I (scErr e q ch)])) := by
  have g0 := checkRules_sat e q ch hq hch hl
  by_cases h0 : rulesErr e q ch = 0
  · obtain ⟨_, _, h4, hf⟩ := rulesErr_zero h0
    have hS := scT_B4 hf h4 (Nat.le_refl _)
    rw [h0] at g0
    have he : scErr e q ch = if scSmall (scOf ch) then 0 else 8 := by unfold scErr; rw [if_neg (by omega)]
    rw [he]
    clear he
    refine Sat_of_awp (fn := f18) cx_ok (by kernel_rfl) (by kernel_rfl) rfl (by kernel_rfl) (Nat.le_of_ble_eq_true rfl) ?_
    repeat ((first | refine oP rfl ?_ | refine rP rfl (fun _ z => z) ?_ | (refine kO 1 rfl ?_; refine rG (fun _ z => z) ?_) | (refine kO 3 rfl ?_; first | refine rLdb rfl rfl rfl rfl rfl rfl rfl ?_ | refine rG (fun _ z => z) ?_) | (refine kO 4 rfl ?_; refine rG (fun _ z => z) ?_) | (refine kO 7 rfl ?_; refine rG (fun _ z => ⟨_, g0, z⟩) ?_) | (refine kO 6 rfl ?_; refine rLenv rfl rfl rfl rfl rfl rfl ?_) | refine oN ?_ | refine aS ?_ | refine aR ?_ | refine aK ?_ | refine aB ?_ | refine aC rfl ?_ | refine bF ?_ | refine aL ?_); (try conv => whnf))
    refine loop_ind (ι := Nat) (fun i => i ≤ ch.length) (fun i => ch.length - i) (fun i => ⟨[(2, pP 0), (6, pP 1), (20, some (.val (false, [.st (.view (ch.map sp))]))), (21, vI ch.length), (22, vI i)], [(0, some (.box 25 [.st (J 0), .st (J 0), .st (J 0), .st (J 0)])), (1, some (.box 25 [.st (J (scT ch i).1), .st (J (scT ch i).2.1), .st (J (scT ch i).2.2.1), .st (J (scT ch i).2.2.2)]))], 2⟩) 0 (canon_auto (by rw [List.length_map]; kernel_rfl)) (Nat.zero_le _) ?_
    intro i hi
    have hB := scT_B4 hf h4 hi
    repeat ((first | refine oP rfl ?_ | (refine kO 1 rfl ?_; refine rG (fun _ z => z) ?_) | refine oN ?_ | refine aS ?_ | refine aR ?_ | refine aC rfl ?_); (try conv => whnf))
    ((refine brp (fun h => ?_) (fun h => ?_)) <;> (try conv => whnf))
    · have hlt : i < ch.length := by omega
      have hget := sp_get hlt
      have hs := scT_succ hlt
      have hQ := (facErr_zero (hf _ (sp_mem hlt))).1
      generalize ch.getD i (0, 0, 0, 0) = Q at *
      have p1 := wProduct_sat hB.1 hB.2.1 hQ.1 hQ.2.1
      have p2 := wProduct_sat hB.2.2.1 hB.2.2.2 hQ.2.2.1 hQ.2.2.2
      repeat ((first | refine oP rfl ?_ | refine rP rfl (fun _ z => z) ?_ | (refine kO 1 rfl ?_; refine rAdd rfl rfl rfl (by omega) ?_) | (refine kO 3 rfl ?_; refine rG (fun _ z => z) ?_) | (refine kO 4 rfl ?_; refine rG (fun _ z => z) ?_) | (refine kO 5 rfl ?_; refine rIdvN rfl rfl rfl rfl rfl rfl (by assumption) rfl ?_) | (refine kO 7 rfl ?_; first | refine rG (fun _ z => ⟨_, p1, z⟩) ?_ | refine rG (fun _ z => ⟨_, p2, z⟩) ?_) | refine oN ?_ | refine aS ?_ | refine aR ?_ | refine aK ?_ | refine aB ?_ | refine dI (by kernel_rfl) ?_); (try conv => whnf))
      exact ⟨i + 1, hlt, by omega, canon_auto (by rw [hs]; kernel_rfl)⟩
    · obtain rfl : i = ch.length := by omega
      change scB 1000000000000 (scOf ch) at hB
      show Awp _ _ ⟨_, [_, (1, some (.box 25 [.st (J (scOf ch).1), .st (J (scOf ch).2.1), .st (J (scOf ch).2.2.1), .st (J (scOf ch).2.2.2)]))], _⟩ _ _ _
      generalize scOf ch = S at *
      by_cases k1 : S.1 ≤ 1000000000 ∧ S.2.1 ≤ 1000000000
      · by_cases k2 : S.2.2.1 ≤ 1000000000 ∧ S.2.2.2 ≤ 1000000000
        · rw [if_pos (show scSmall S from ⟨k1, k2⟩), if_pos rfl]
          repeat ((first | refine oP rfl ?_ | refine rP rfl (fun _ z => z) ?_ | (refine kO 2 rfl ?_; refine rG (fun _ z => z) ?_) | (refine kO 3 rfl ?_; refine rG (fun _ z => z) ?_) | (refine kO 4 rfl ?_; refine rG (fun _ z => z) ?_) | (refine kO 7 rfl ?_; refine rG (fun _ z => ⟨_, wIsSmall_sat _ _, z⟩) ?_) | refine oN ?_ | refine aS ?_ | refine aR ?_ | refine aK ?_ | refine aX ?_ | refine aT ?_ | refine aC rfl ?_ | refine bPf (by omega) ?_ | refine oY rfl rfl rfl ?_ | refine oUf rfl rfl rfl (by omega) ?_); (try conv => whnf))
          (rfl)
        · rw [if_neg (show ¬ scSmall S from fun h => k2 h.2), if_neg (by omega)]
          repeat ((first | refine oP rfl ?_ | refine rP rfl (fun _ z => z) ?_ | (refine kO 2 rfl ?_; refine rG (fun _ z => z) ?_) | (refine kO 3 rfl ?_; refine rG (fun _ z => z) ?_) | (refine kO 4 rfl ?_; refine rG (fun _ z => z) ?_) | (refine kO 7 rfl ?_; refine rG (fun _ z => ⟨_, wIsSmall_sat _ _, z⟩) ?_) | refine oN ?_ | refine aS ?_ | refine aR ?_ | refine aX ?_ | refine aT ?_ | refine aC rfl ?_ | refine bPt (by omega) ?_ | refine oY rfl rfl rfl ?_ | refine oUf rfl rfl rfl (by omega) ?_); (try conv => whnf))
          (rfl)
      · rw [if_neg (show ¬ scSmall S from fun h => k1 h.1), if_neg (by omega)]
        repeat ((first | refine oP rfl ?_ | refine rP rfl (fun _ z => z) ?_ | (refine kO 2 rfl ?_; refine rG (fun _ z => z) ?_) | (refine kO 3 rfl ?_; refine rG (fun _ z => z) ?_) | (refine kO 4 rfl ?_; refine rG (fun _ z => z) ?_) | (refine kO 7 rfl ?_; refine rG (fun _ z => ⟨_, wIsSmall_sat _ _, z⟩) ?_) | refine oN ?_ | refine aS ?_ | refine aR ?_ | refine aX ?_ | refine aT ?_ | refine aC rfl ?_ | refine bT ?_ | refine oZ rfl rfl rfl ?_ | refine oUt rfl rfl rfl (by omega) ?_); (try conv => whnf))
        (rfl)
  · have he : scErr e q ch = rulesErr e q ch := by unfold scErr; rw [if_pos h0]
    rw [he, if_neg h0]
    generalize rulesErr e q ch = z0 at *
    refine Sat_of_awp (fn := f18) cx_ok (by kernel_rfl) (by kernel_rfl) rfl (by kernel_rfl) (Nat.le_of_ble_eq_true rfl) ?_
    repeat ((first | refine oP rfl ?_ | refine rP rfl (fun _ z => z) ?_ | (refine kO 1 rfl ?_; refine rG (fun _ z => z) ?_) | (refine kO 3 rfl ?_; refine rG (fun _ z => z) ?_) | (refine kO 4 rfl ?_; refine rG (fun _ z => z) ?_) | (refine kO 7 rfl ?_; refine rG (fun _ z => ⟨_, g0, z⟩) ?_) | refine oN ?_ | refine aS ?_ | refine aR ?_ | refine aT ?_ | refine aC rfl ?_ | refine bPt (by omega) ?_); (try conv => whnf))
    (rfl)
end Go.Proofs.Tryd

namespace Go.Proofs.Tryd
open Go.Fw Go.IntWalk Go.Plain
set_option maxRecDepth 100000
set_option maxHeartbeats 8000000
theorem sz_pos {n : Int} (h : 1 ≤ n ∧ n ≤ 1000000000000) : Sz 20000 n := (sz_int (by omega)).mono (by omega)
theorem fromLow {n d : Int} (hn : 1 ≤ n ∧ n ≤ 1000) (hd : 1 ≤ d ∧ d ≤ 1000) (hg : Int.gcd n d = 1) : Sat cx.P cx.gl 82 [F2 n d] (.one (rt n d)) := by
  have g := ratioFrom_sat (n := n) (d := d) (by omega) (by omega)
  have h1 : lowNum n d = n := by unfold lowNum; rw [hg]; simp
  have h2 : lowDen n d = d := by unfold lowDen; rw [hg]; simp
  rwa [h1, h2] at g
theorem refScale_sat {e : Int} {q : Sp} {ch : List Sp} (h0 : rulesErr e q ch = 0) : Sat cx.P cx.gl 25 [Ru e q ch] (.tup (if scSmall (scOf ch) then [(true, sp (scOf ch)), Bo true] else [F4 0 0 0 0, Bo false])) := by
  obtain ⟨_, _, h4, hf⟩ := rulesErr_zero h0
  have hS := scT_B4 hf h4 (Nat.le_refl _)
  have o1 := ratioInt_sat 1 (by omega)
  refine Sat_of_awp (fn := f25) cx_ok (by kernel_rfl) (by kernel_rfl) rfl (by kernel_rfl) (Nat.le_of_ble_eq_true rfl) ?_
  repeat ((first | refine oP rfl ?_ | refine rP rfl (fun _ z => z) ?_ | (refine kO 4 rfl ?_; refine rG (fun _ z => z) ?_) | (refine kO 7 rfl ?_; refine rG (fun _ z => ⟨_, o1, z⟩) ?_) | refine oN ?_ | refine aS ?_ | refine aR ?_ | refine aB ?_ | refine aL ?_); (try conv => whnf))
  refine loop_ind (ι := Nat) (fun i => i ≤ ch.length) (fun i => ch.length - i) (fun i => ⟨[(1, pP 0), (2, pP 1), (4, pP 2), (5, pP 3), (6, vI i)], [(0, some (.box 28 [.st (J e), .st (J q.1), .st (J q.2.1), .st (J q.2.2.1), .st (J q.2.2.2), .st (.view (ch.map sp))])), (1, some (.box 25 [.st (J 0), .st (J 0), .st (J 0), .st (J 0)])),
    (2, some (.box 132 [.st (J (scT ch i).1.sign), .st (.ints (digs (scT ch i).1.natAbs)), .st (J (scT ch i).2.1.sign), .st (.ints (digs (scT ch i).2.1.natAbs))])), (3, some (.box 132 [.st (J (scT ch i).2.2.1.sign), .st (.ints (digs (scT ch i).2.2.1.natAbs)), .st (J (scT ch i).2.2.2.sign), .st (.ints (digs (scT ch i).2.2.2.natAbs))]))], 4⟩) 0 (canon_auto (by kernel_rfl)) (Nat.zero_le _) ?_
  intro i hi
  have hB := scT_B4 hf h4 hi
  repeat ((first | refine oP rfl ?_ | refine rP rfl (fun _ z => z) ?_ | (refine kO 1 rfl ?_; refine rG (fun _ z => z) ?_) | (refine kO 3 rfl ?_; refine rLdb rfl rfl rfl rfl rfl rfl rfl ?_) | (refine kO 6 rfl ?_; refine rLenv rfl rfl rfl rfl rfl rfl ?_) | refine oN ?_ | refine aS ?_ | refine aR ?_ | refine aC rfl ?_); (try conv => whnf))
  ((refine brp (fun h => ?_) (fun h => ?_)) <;> (try conv => whnf))
  · have hlt : i < ch.length := by rw [List.length_map] at h; omega
    have hget := sp_get hlt
    have hs := scT_succ hlt
    have hQ := facErr_zero (hf _ (sp_mem hlt))
    generalize ch.getD i (0, 0, 0, 0) = Q at *
    obtain ⟨hQ, hg1, hg2, _⟩ := hQ
    have p1 := fromLow hQ.1 hQ.2.1 hg1
    have p2 := fromLow hQ.2.2.1 hQ.2.2.2 hg2
    have p3 := ratioMul_sat (n := (scT ch i).1) (d := (scT ch i).2.1) (m := Q.1) (e := Q.2.1) (sz_pos hB.1) (sz_pos hB.2.1) (sz_pos (by omega)) (sz_pos (by omega)) (Int.mul_pos (by omega) (by omega))
    have p4 := ratioMul_sat (n := (scT ch i).2.2.1) (d := (scT ch i).2.2.2) (m := Q.2.2.1) (e := Q.2.2.2) (sz_pos hB.2.2.1) (sz_pos hB.2.2.2) (sz_pos (by omega)) (sz_pos (by omega)) (Int.mul_pos (by omega) (by omega))
    repeat ((first | refine oP rfl ?_ | refine rP rfl (fun _ z => z) ?_ | (refine kO 1 rfl ?_; refine rAdd rfl rfl rfl (by omega) ?_) | (refine kO 3 rfl ?_; first | refine rLdb rfl rfl rfl rfl rfl rfl rfl ?_ | refine rG (fun _ z => z) ?_) | (refine kO 4 rfl ?_; refine rG (fun _ z => z) ?_) | (refine kO 5 rfl ?_; refine rIdvN rfl rfl rfl rfl rfl rfl (by assumption) rfl ?_) | (refine kO 7 rfl ?_; first | refine rG (fun _ z => ⟨_, p1, z⟩) ?_ | refine rG (fun _ z => ⟨_, p2, z⟩) ?_ | refine rG (fun _ z => ⟨_, p3, z⟩) ?_ | refine rG (fun _ z => ⟨_, p4, z⟩) ?_) | refine oN ?_ | refine aS ?_ | refine aR ?_ | refine aK ?_ | refine aB ?_ | refine dI (by kernel_rfl) ?_); (try conv => whnf))
    exact ⟨i + 1, hlt, by omega, canon_auto (by rw [hs]; kernel_rfl)⟩
  · obtain rfl : i = ch.length := by rw [List.length_map] at h; omega
    have f1 := ratioFrac_sat (n := (scOf ch).1) (d := (scOf ch).2.1) (by have : scB 1000000000000 (scOf ch) := hS; omega) (by have : scB 1000000000000 (scOf ch) := hS; omega)
    have f2 := ratioFrac_sat (n := (scOf ch).2.2.1) (d := (scOf ch).2.2.2) (by have : scB 1000000000000 (scOf ch) := hS; omega) (by have : scB 1000000000000 (scOf ch) := hS; omega)
    by_cases k1 : (scOf ch).1 ≤ 1000000000 ∧ (scOf ch).2.1 ≤ 1000000000
    · rw [if_pos k1] at f1
      by_cases k2 : (scOf ch).2.2.1 ≤ 1000000000 ∧ (scOf ch).2.2.2 ≤ 1000000000
      · rw [if_pos k2] at f2
        rw [if_pos (show scSmall (scOf ch) from ⟨k1, k2⟩)]
        repeat ((first | refine oP rfl ?_ | refine rP rfl (fun _ z => z) ?_ | (refine kO 2 rfl ?_; refine rG (fun _ z => z) ?_) | (refine kO 3 rfl ?_; refine rG (fun _ z => z) ?_) | (refine kO 4 rfl ?_; refine rG (fun _ z => z) ?_) | (refine kO 7 rfl ?_; first | refine rG (fun _ z => ⟨_, f1, z⟩) ?_ | refine rG (fun _ z => ⟨_, f2, z⟩) ?_) | refine oN ?_ | refine aS ?_ | refine aR ?_ | refine aK ?_ | refine aX ?_ | refine aT ?_ | refine aC rfl ?_ | refine bF ?_ | refine oY rfl rfl rfl ?_); (try conv => whnf))
        (rfl)
      · rw [if_neg k2] at f2
        rw [if_neg (show ¬ scSmall (scOf ch) from fun h => k2 h.2)]
        repeat ((first | refine oP rfl ?_ | refine rP rfl (fun _ z => z) ?_ | (refine kO 2 rfl ?_; refine rG (fun _ z => z) ?_) | (refine kO 3 rfl ?_; refine rG (fun _ z => z) ?_) | (refine kO 4 rfl ?_; refine rG (fun _ z => z) ?_) | (refine kO 7 rfl ?_; first | refine rG (fun _ z => ⟨_, f1, z⟩) ?_ | refine rG (fun _ z => ⟨_, f2, z⟩) ?_) | refine oN ?_ | refine aS ?_ | refine aR ?_ | refine aX ?_ | refine aT ?_ | refine aC rfl ?_ | refine bT ?_ | refine oY rfl rfl rfl ?_); (try conv => whnf))
        (rfl)
    · rw [if_neg k1] at f1
      rw [if_neg (show ¬ scSmall (scOf ch) from fun h => k1 h.1)]
      by_cases k2 : (scOf ch).2.2.1 ≤ 1000000000 ∧ (scOf ch).2.2.2 ≤ 1000000000
      · rw [if_pos k2] at f2
        repeat ((first | refine oP rfl ?_ | refine rP rfl (fun _ z => z) ?_ | (refine kO 2 rfl ?_; refine rG (fun _ z => z) ?_) | (refine kO 3 rfl ?_; refine rG (fun _ z => z) ?_) | (refine kO 4 rfl ?_; refine rG (fun _ z => z) ?_) | (refine kO 7 rfl ?_; first | refine rG (fun _ z => ⟨_, f1, z⟩) ?_ | refine rG (fun _ z => ⟨_, f2, z⟩) ?_) | refine oN ?_ | refine aS ?_ | refine aR ?_ | refine aX ?_ | refine aT ?_ | refine aC rfl ?_ | refine bT ?_ | refine oZ rfl rfl rfl ?_); (try conv => whnf))
        (rfl)
      · rw [if_neg k2] at f2
        repeat ((first | refine oP rfl ?_ | refine rP rfl (fun _ z => z) ?_ | (refine kO 2 rfl ?_; refine rG (fun _ z => z) ?_) | (refine kO 3 rfl ?_; refine rG (fun _ z => z) ?_) | (refine kO 4 rfl ?_; refine rG (fun _ z => z) ?_) | (refine kO 7 rfl ?_; first | refine rG (fun _ z => ⟨_, f1, z⟩) ?_ | refine rG (fun _ z => ⟨_, f2, z⟩) ?_) | refine oN ?_ | refine aS ?_ | refine aR ?_ | refine aX ?_ | refine aT ?_ | refine aC rfl ?_ | refine bT ?_ | refine oZ rfl rfl rfl ?_); (try conv => whnf))
        (rfl)
theorem refRulesErr_sat (e : Int) (q : Sp) (ch : List Sp) (hq : SpI q) (hch : ∀ s ∈ ch, SpI s) : Sat cx.P cx.gl 20 [Ru e q ch] (.one (I (rulesErr e q ch))) := by
  have g := refFactorErr_sat q hq
  unfold rulesErr
  by_cases h1 : 0 ≤ e ∧ e ≤ 100
  · rw [if_pos h1]
    by_cases h2 : facErr q = 0
    · rw [if_neg (by omega)]
      rw [h2] at g
      by_cases h3 : ch.length ≤ 4
      · rw [if_pos h3]
        have hlen : (ch.map sp).length = ch.length := List.length_map ..
        refine Sat_of_awp (fn := f20) cx_ok (by kernel_rfl) (by kernel_rfl) rfl (by kernel_rfl) (Nat.le_of_ble_eq_true rfl) ?_
        repeat ((first | refine oP rfl ?_ | refine rP rfl (fun _ z => z) ?_ | (refine kO 1 rfl ?_; refine rG (fun _ z => z) ?_) | (refine kO 2 rfl ?_; refine rG (fun _ z => z) ?_) | (refine kO 3 rfl ?_; first | refine rLdb rfl rfl rfl rfl rfl rfl rfl ?_ | refine rG (fun _ z => z) ?_) | (refine kO 7 rfl ?_; first | refine rG (fun _ z => ⟨_, within_p _ _ _, z⟩) ?_ | refine rG (fun _ z => ⟨_, g, z⟩) ?_) | (refine kO 6 rfl ?_; refine rLenv rfl rfl rfl rfl rfl rfl ?_) | refine oN ?_ | refine aS ?_ | refine aR ?_ | refine aK ?_ | refine aB ?_ | refine aC rfl ?_ | refine bF ?_ | refine bPf (by omega) ?_ | refine aL ?_); (try conv => whnf))
        refine loop_ind (ι := Nat) (fun i => i ≤ ch.length ∧ fs (ch.map facErr) = fs ((ch.drop i).map facErr)) (fun i => ch.length - i) (fun i => ⟨[(1, pP 0), (4, vI i)], [(0, some (.box 28 [.st (J e), .st (J q.1), .st (J q.2.1), .st (J q.2.2.1), .st (J q.2.2.2), .st (.view (ch.map sp))]))], 1⟩) 0 (canon_auto (by kernel_rfl)) ⟨Nat.zero_le _, rfl⟩ ?_
        rintro i ⟨hi, he⟩
        repeat ((first | refine oP rfl ?_ | refine rP rfl (fun _ z => z) ?_ | (refine kO 1 rfl ?_; refine rG (fun _ z => z) ?_) | (refine kO 3 rfl ?_; refine rLdb rfl rfl rfl rfl rfl rfl rfl ?_) | (refine kO 6 rfl ?_; refine rLenv rfl rfl rfl rfl rfl rfl ?_) | refine oN ?_ | refine aS ?_ | refine aR ?_ | refine aC rfl ?_); (try conv => whnf))
        ((refine brp (fun h => ?_) (fun h => ?_)) <;> (try conv => whnf))
        · have hlt : i < ch.length := by omega
          have hget := sp_get hlt
          have g := refFactorErr_sat _ (hch _ (sp_mem hlt))
          rw [fs_drop hlt] at he
          repeat ((first | refine oP rfl ?_ | refine rP rfl (fun _ z => z) ?_ | (refine kO 1 rfl ?_; refine rG (fun _ z => z) ?_) | (refine kO 3 rfl ?_; first | refine rLdb rfl rfl rfl rfl rfl rfl rfl ?_ | refine rG (fun _ z => z) ?_) | (refine kO 5 rfl ?_; refine rIdvN rfl rfl rfl rfl rfl rfl (by assumption) rfl ?_) | (refine kO 7 rfl ?_; refine rG (fun _ z => ⟨_, g, z⟩) ?_) | refine oN ?_ | refine aS ?_ | refine aR ?_ | refine aK ?_ | refine aB ?_ | refine aC rfl ?_); (try conv => whnf))
          ((refine brp (fun h => ?_) (fun h => ?_)) <;> (try conv => whnf))
          · repeat ((first | refine oP rfl ?_ | refine rP rfl (fun _ z => z) ?_ | refine oN ?_ | refine aS ?_ | refine aR ?_ | refine aT ?_); (try conv => whnf))
            rw [he, if_pos h]; (rfl)
          · rw [if_neg h] at he
            repeat ((first | refine oP rfl ?_ | refine rP rfl (fun _ z => z) ?_ | (refine kO 1 rfl ?_; refine rAdd rfl rfl rfl (by omega) ?_) | refine oN ?_ | refine aR ?_ | refine aK ?_); (try conv => whnf))
            exact ⟨i + 1, ⟨hlt, he⟩, by omega, canon_auto (by kernel_rfl)⟩
        · obtain rfl : i = ch.length := by omega
          repeat ((first | refine oP rfl ?_ | refine rP rfl (fun _ z => z) ?_ | refine oN ?_ | refine aS ?_ | refine aR ?_ | refine aX ?_ | refine aT ?_); (try conv => whnf))
          rw [he, List.drop_length]; (rfl)
      · rw [if_neg h3]
        have hlen : (ch.map sp).length = ch.length := List.length_map ..
        refine Sat_of_awp (fn := f20) cx_ok (by kernel_rfl) (by kernel_rfl) rfl (by kernel_rfl) (Nat.le_of_ble_eq_true rfl) ?_
        repeat ((first | refine oP rfl ?_ | refine rP rfl (fun _ z => z) ?_ | (refine kO 1 rfl ?_; refine rG (fun _ z => z) ?_) | (refine kO 2 rfl ?_; refine rG (fun _ z => z) ?_) | (refine kO 3 rfl ?_; first | refine rLdb rfl rfl rfl rfl rfl rfl rfl ?_ | refine rG (fun _ z => z) ?_) | (refine kO 7 rfl ?_; first | refine rG (fun _ z => ⟨_, within_p _ _ _, z⟩) ?_ | refine rG (fun _ z => ⟨_, g, z⟩) ?_) | (refine kO 6 rfl ?_; refine rLenv rfl rfl rfl rfl rfl rfl ?_) | refine oN ?_ | refine aS ?_ | refine aR ?_ | refine aK ?_ | refine aT ?_ | refine aC rfl ?_ | refine bF ?_ | refine bPt (by omega) ?_ | refine bPf (by omega) ?_); (try conv => whnf))
        (done)
    · rw [if_pos h2]
      generalize facErr q = z at *
      refine Sat_of_awp (fn := f20) cx_ok (by kernel_rfl) (by kernel_rfl) rfl (by kernel_rfl) (Nat.le_of_ble_eq_true rfl) ?_
      repeat ((first | refine oP rfl ?_ | refine rP rfl (fun _ z => z) ?_ | (refine kO 1 rfl ?_; refine rG (fun _ z => z) ?_) | (refine kO 2 rfl ?_; refine rG (fun _ z => z) ?_) | (refine kO 3 rfl ?_; first | refine rLdb rfl rfl rfl rfl rfl rfl rfl ?_ | refine rG (fun _ z => z) ?_) | (refine kO 7 rfl ?_; first | refine rG (fun _ z => ⟨_, within_p _ _ _, z⟩) ?_ | refine rG (fun _ z => ⟨_, g, z⟩) ?_) | refine oN ?_ | refine aS ?_ | refine aR ?_ | refine aK ?_ | refine aT ?_ | refine aC rfl ?_ | refine bPt (by omega) ?_ | refine bPf (by omega) ?_); (try conv => whnf))
      (rfl)
  · rw [if_neg h1]
    refine Sat_of_awp (fn := f20) cx_ok (by kernel_rfl) (by kernel_rfl) rfl (by kernel_rfl) (Nat.le_of_ble_eq_true rfl) ?_
    repeat ((first | refine oP rfl ?_ | refine rP rfl (fun _ z => z) ?_ | (refine kO 2 rfl ?_; refine rG (fun _ z => z) ?_) | (refine kO 3 rfl ?_; refine rLdb rfl rfl rfl rfl rfl rfl rfl ?_) | (refine kO 7 rfl ?_; refine rG (fun _ z => ⟨_, within_p _ _ _, z⟩) ?_) | refine oN ?_ | refine aS ?_ | refine aR ?_ | refine aT ?_ | refine aC rfl ?_ | refine bPt (by omega) ?_); (try conv => whnf))
    (done)
theorem copyRules_sat (e : Int) (q : Sp) (ch : List Sp) (hl : ch.length ≤ 4294967296) : Sat cx.P cx.gl 19 [Ru e q ch] (.one (Ru e q ch)) := by
  have hlen : (ch.map sp).length ≤ 4294967296 := by rw [List.length_map]; exact hl
  have hun : (SC.view ([] ++ ch.map sp)).uni 4 := by
    intro x hx
    rw [List.nil_append] at hx
    obtain ⟨s, _, rfl⟩ := List.mem_map.1 hx
    rfl
  refine Sat_of_awp (fn := f19) cx_ok (by kernel_rfl) (by kernel_rfl) rfl (by kernel_rfl) (Nat.le_of_ble_eq_true rfl) ?_
  repeat ((first | refine oP rfl ?_ | refine rP rfl (fun _ z => z) ?_ | (refine kO 3 rfl ?_; first | refine rLdb rfl rfl rfl rfl rfl rfl rfl ?_ | refine rG (fun _ z => z) ?_) | refine oN ?_ | refine aS ?_ | refine aR ?_); (try conv => whnf))
  refine rG (fun _ z => ⟨hun, lvN hlen, z⟩) ?_
  (conv => whnf)
  repeat ((first | refine oP rfl ?_ | refine rP rfl (fun _ z => z) ?_ | (refine kO 4 rfl ?_; refine rG (fun _ z => z) ?_) | refine oN ?_ | refine aT ?_ | refine dI (by kernel_rfl) ?_); (try conv => whnf))
  (rfl)
theorem copyRecord_sat (st : Int) (l : List Int) (hl : l.length ≤ 4294967296) : Sat cx.P cx.gl 23 [Rc st l] (.one (Rc st l)) := by
  refine Sat_of_awp (fn := f23) cx_ok (by kernel_rfl) (by kernel_rfl) rfl (by kernel_rfl) (Nat.le_of_ble_eq_true rfl) ?_
  repeat ((first | refine oP rfl ?_ | refine rP rfl (fun _ z => z) ?_ | (refine kO 3 rfl ?_; refine rLdb rfl rfl rfl rfl rfl rfl rfl ?_) | (refine kO 4 rfl ?_; refine rG (fun _ z => z) ?_) | (refine kO 7 rfl ?_; refine rG (fun _ z => ⟨_, copyInts_sat l hl, z⟩) ?_) | refine oN ?_ | refine aS ?_ | refine aR ?_ | refine aT ?_ | refine dI (by kernel_rfl) ?_); (try conv => whnf))
  (rfl)
theorem few8_sat (st : Int) (l : List Int) : Sat cx.P cx.gl 16 [Rc st l] (.one (Bo (decide (l.length ≤ 70)))) := by
  refine Sat_of_awp (fn := f16) cx_ok (by kernel_rfl) (by kernel_rfl) rfl (by kernel_rfl) (Nat.le_of_ble_eq_true rfl) ?_
  repeat ((first | refine oP rfl ?_ | refine rP rfl (fun _ z => z) ?_ | (refine kO 1 rfl ?_; refine rG (fun _ z => z) ?_) | (refine kO 3 rfl ?_; refine rLdb rfl rfl rfl rfl rfl rfl rfl ?_) | (refine kO 6 rfl ?_; refine rLen rfl rfl rfl rfl rfl rfl ?_) | refine oN ?_ | refine aS ?_ | refine aR ?_ | refine aT ?_); (try conv => whnf))
  exact res_bo (decide_eq_decide.2 (by omega))
theorem fewFactors_sat (e : Int) (q : Sp) (ch : List Sp) : Sat cx.P cx.gl 17 [Ru e q ch] (.one (Bo (decide (ch.length ≤ 6)))) := by
  refine Sat_of_awp (fn := f17) cx_ok (by kernel_rfl) (by kernel_rfl) rfl (by kernel_rfl) (Nat.le_of_ble_eq_true rfl) ?_
  repeat ((first | refine oP rfl ?_ | refine rP rfl (fun _ z => z) ?_ | (refine kO 1 rfl ?_; refine rG (fun _ z => z) ?_) | (refine kO 3 rfl ?_; refine rLdb rfl rfl rfl rfl rfl rfl rfl ?_) | (refine kO 6 rfl ?_; refine rLenv rfl rfl rfl rfl rfl rfl ?_) | refine oN ?_ | refine aS ?_ | refine aR ?_ | refine aT ?_); (try conv => whnf))
  exact res_bo (decide_eq_decide.2 (by rw [List.length_map]; omega))
end Go.Proofs.Tryd
