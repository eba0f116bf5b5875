/- Parts of the proof, joined. -/
import Derived.Test.YtggfcjiahhjcnabGreatDoorVb
import Derived.Test.YtggfcjiahhjcnabGreatDoorVa
import Derived.Test.YtggfcjiahhjcnabGreatDoorWs
import Derived.Test.YtggfcjiahhjcnabGreatDoorP
import Derived.Test.YtggfcjiahhjcnabGreatDoorFe

namespace Go.Proofs.Tryz
open Go.Fw Go.IntWalk Go.Plain
set_option maxRecDepth 100000
set_option maxHeartbeats 8000000
theorem tupB {x : SV} {b c : Bool} (h : b = c) : Res.tup [x, Bo b] = Res.tup [x, Bo c] := by rw [h]
theorem wNumber_ok {sg : Bool} {s : List UInt8} {d : Nat} (hd : d ≤ 18) (hl : s.length ≤ 1000000) {n : Int} (h : wN sg d s = some n) : Sat cx.P cx.gl 30 [SS s, I d, Bo sg] (.tup [I n, Bo true]) := by
  obtain ⟨h0, h9⟩ := wN_some h
  obtain ⟨h1, h2, h3, h4⟩ := numN_some hd h0
  have c1 := atoi_sat s hl h1
  have c2 := itoa_sat n h4
  rw [h2] at c2
  have c3 := trimPrefix_sat s [45]
  generalize Lib.trimPrefix s [45] = u at *
  cases sg with
  | true =>
    refine Sat_of_awp (fn := f30) cx_ok (by kernel_rfl) (by kernel_rfl) rfl (by kernel_rfl) (Nat.le_of_ble_eq_true rfl) ?_
    repeat' ((first | refine oP rfl ?_ | refine rP rfl (fun _ z => z) ?_ | (refine kO 1 rfl ?_; first | refine rSEq rfl rfl rfl ?_ | refine rG (fun _ z => z) ?_) | (refine kO 7 rfl ?_; first | refine rG (fun _ z => ⟨_, c1, z⟩) ?_ | refine rG (fun _ z => ⟨_, c2, z⟩) ?_ | refine rG (fun _ z => ⟨_, c3, z⟩) ?_) | (refine kO 6 rfl ?_; refine rSLen rfl rfl rfl rfl rfl rfl ?_) | refine oN ?_ | refine aS ?_ | refine aR ?_ | refine aT ?_ | refine oY rfl rfl rfl ?_ | refine oZ rfl rfl rfl ?_ | refine oO rfl rfl rfl ?_ | refine opsA_ifp rfl rfl rfl (fun h => ?_) (fun h => ?_)) <;> (try conv => whnf))
    all_goals first | (exact rfl) | (exfalso; omega) | (exact absurd rfl (by assumption)) | (exact tupB (decide_eq_true (by omega))) | (exact tupB (decide_eq_false (by omega)))
  | false =>
    have h8 : 0 ≤ n := by simpa using h9
    refine Sat_of_awp (fn := f30) cx_ok (by kernel_rfl) (by kernel_rfl) rfl (by kernel_rfl) (Nat.le_of_ble_eq_true rfl) ?_
    repeat' ((first | refine oP rfl ?_ | refine rP rfl (fun _ z => z) ?_ | (refine kO 1 rfl ?_; first | refine rSEq rfl rfl rfl ?_ | refine rG (fun _ z => z) ?_) | (refine kO 7 rfl ?_; first | refine rG (fun _ z => ⟨_, c1, z⟩) ?_ | refine rG (fun _ z => ⟨_, c2, z⟩) ?_ | refine rG (fun _ z => ⟨_, c3, z⟩) ?_) | (refine kO 6 rfl ?_; refine rSLen rfl rfl rfl rfl rfl rfl ?_) | refine oN ?_ | refine aS ?_ | refine aR ?_ | refine aT ?_ | refine oY rfl rfl rfl ?_ | refine oZ rfl rfl rfl ?_ | refine oO rfl rfl rfl ?_ | refine oIt rfl rfl rfl (by omega) ?_ | refine opsA_ifp rfl rfl rfl (fun h => ?_) (fun h => ?_)) <;> (try conv => whnf))
    all_goals first | (exact absurd rfl (by assumption)) | (exact tupB (decide_eq_true (by omega)))
theorem wNumber_no {sg : Bool} {s : List UInt8} {d : Nat} (hl : s.length ≤ 1000000) (hn : wN sg d s = none) : ∃ v, Sat cx.P cx.gl 30 [SS s, I d, Bo sg] (.tup [I v, Bo false]) := by
  by_cases hok : ∀ v, Lib.atoiAll s ≠ .ok v
  · obtain ⟨v, c1⟩ := atoiBad_sat s hl hok
    refine ⟨v, ?_⟩
    cases sg
    · refine Sat_of_awp (fn := f30) cx_ok (by kernel_rfl) (by kernel_rfl) rfl (by kernel_rfl) (Nat.le_of_ble_eq_true rfl) ?_
      repeat' ((first | refine oP rfl ?_ | refine rP rfl (fun _ z => z) ?_ | (refine kO 1 rfl ?_; refine rG (fun _ z => z) ?_) | (refine kO 7 rfl ?_; refine rG (fun _ z => ⟨_, c1, z⟩) ?_) | refine oN ?_ | refine aS ?_ | refine aR ?_ | refine aT ?_ | refine oZ rfl rfl rfl ?_ | refine oO rfl rfl rfl ?_) <;> (try conv => whnf))
      all_goals exact rfl
    · refine Sat_of_awp (fn := f30) cx_ok (by kernel_rfl) (by kernel_rfl) rfl (by kernel_rfl) (Nat.le_of_ble_eq_true rfl) ?_
      repeat' ((first | refine oP rfl ?_ | refine rP rfl (fun _ z => z) ?_ | (refine kO 1 rfl ?_; refine rG (fun _ z => z) ?_) | (refine kO 7 rfl ?_; refine rG (fun _ z => ⟨_, c1, z⟩) ?_) | refine oN ?_ | refine aS ?_ | refine aR ?_ | refine aT ?_ | refine oZ rfl rfl rfl ?_ | refine oO rfl rfl rfl ?_) <;> (try conv => whnf))
      all_goals exact rfl
  · simp only [ne_eq, Classical.not_forall, Classical.not_not] at hok
    obtain ⟨v, hv⟩ := hok
    refine ⟨v, ?_⟩
    have h4 := Lib.atoiAll_bounds hv
    have c1 := atoi_sat s hl hv
    have c2 := itoa_sat v h4
    have c3 := trimPrefix_sat s [45]
    have key : ¬ (Lib.itoa v = s ∧ (sg = true ∨ 0 ≤ v) ∧ (Lib.trimPrefix s [45]).length ≤ d) := by
      rintro ⟨h5, h6, h7⟩
      have := numN_back (d := d) (n := v) (by rw [h5]; exact h7)
      rw [h5] at this
      unfold wN at hn
      rw [this] at hn
      have hn' : (if sg = true ∨ 0 ≤ v then some v else none) = none := hn
      rw [if_pos h6] at hn'
      cases hn'
    generalize Lib.trimPrefix s [45] = u at *
    by_cases hp : Lib.itoa v = s
    · rw [hp] at c2
      have key2 : ¬ ((sg = true ∨ 0 ≤ v) ∧ u.length ≤ d) := fun h => key ⟨hp, h⟩
      clear key
      cases sg with
      | true =>
        have k3 : ¬ u.length ≤ d := fun h => key2 ⟨.inl rfl, h⟩
        refine Sat_of_awp (fn := f30) cx_ok (by kernel_rfl) (by kernel_rfl) rfl (by kernel_rfl) (Nat.le_of_ble_eq_true rfl) ?_
        repeat' ((first | refine oP rfl ?_ | refine rP rfl (fun _ z => z) ?_ | (refine kO 1 rfl ?_; first | refine rSEq rfl rfl rfl ?_ | refine rG (fun _ z => z) ?_) | (refine kO 7 rfl ?_; first | refine rG (fun _ z => ⟨_, c1, z⟩) ?_ | refine rG (fun _ z => ⟨_, c2, z⟩) ?_ | refine rG (fun _ z => ⟨_, c3, z⟩) ?_) | (refine kO 6 rfl ?_; refine rSLen rfl rfl rfl rfl rfl rfl ?_) | refine oN ?_ | refine aS ?_ | refine aR ?_ | refine aT ?_ | refine oY rfl rfl rfl ?_ | refine oZ rfl rfl rfl ?_ | refine oO rfl rfl rfl ?_ | refine opsA_ifp rfl rfl rfl (fun h => ?_) (fun h => ?_)) <;> (try conv => whnf))
        all_goals first | (exact rfl) | (exfalso; omega) | (exact absurd rfl (by assumption)) | (exact tupB (decide_eq_true (by omega))) | (exact tupB (decide_eq_false (by omega)))
      | false =>
        have k3 : ¬ (0 ≤ v ∧ u.length ≤ d) := fun h => key2 ⟨.inr h.1, h.2⟩
        refine Sat_of_awp (fn := f30) cx_ok (by kernel_rfl) (by kernel_rfl) rfl (by kernel_rfl) (Nat.le_of_ble_eq_true rfl) ?_
        repeat' ((first | refine oP rfl ?_ | refine rP rfl (fun _ z => z) ?_ | (refine kO 1 rfl ?_; first | refine rSEq rfl rfl rfl ?_ | refine rG (fun _ z => z) ?_) | (refine kO 7 rfl ?_; first | refine rG (fun _ z => ⟨_, c1, z⟩) ?_ | refine rG (fun _ z => ⟨_, c2, z⟩) ?_ | refine rG (fun _ z => ⟨_, c3, z⟩) ?_) | (refine kO 6 rfl ?_; refine rSLen rfl rfl rfl rfl rfl rfl ?_) | refine oN ?_ | refine aS ?_ | refine aR ?_ | refine aT ?_ | refine oY rfl rfl rfl ?_ | refine oZ rfl rfl rfl ?_ | refine oO rfl rfl rfl ?_ | refine opsA_ifp rfl rfl rfl (fun h => ?_) (fun h => ?_)) <;> (try conv => whnf))
        all_goals first | (exact rfl) | (exact tupB (decide_eq_false (by omega)))
    · clear key
      generalize Lib.itoa v = y at *
      cases sg
      · refine Sat_of_awp (fn := f30) cx_ok (by kernel_rfl) (by kernel_rfl) rfl (by kernel_rfl) (Nat.le_of_ble_eq_true rfl) ?_
        repeat' ((first | refine oP rfl ?_ | refine rP rfl (fun _ z => z) ?_ | (refine kO 1 rfl ?_; first | refine rSEq rfl rfl rfl ?_ | refine rG (fun _ z => z) ?_) | (refine kO 7 rfl ?_; first | refine rG (fun _ z => ⟨_, c1, z⟩) ?_ | refine rG (fun _ z => ⟨_, c2, z⟩) ?_) | refine oN ?_ | refine aS ?_ | refine aR ?_ | refine aT ?_ | refine oY rfl rfl rfl ?_ | refine oZ rfl rfl rfl ?_ | refine oO rfl rfl rfl ?_ | refine oIf rfl rfl rfl (by omega) ?_) <;> (try conv => whnf))
        all_goals (exact rfl)
      · refine Sat_of_awp (fn := f30) cx_ok (by kernel_rfl) (by kernel_rfl) rfl (by kernel_rfl) (Nat.le_of_ble_eq_true rfl) ?_
        repeat' ((first | refine oP rfl ?_ | refine rP rfl (fun _ z => z) ?_ | (refine kO 1 rfl ?_; first | refine rSEq rfl rfl rfl ?_ | refine rG (fun _ z => z) ?_) | (refine kO 7 rfl ?_; first | refine rG (fun _ z => ⟨_, c1, z⟩) ?_ | refine rG (fun _ z => ⟨_, c2, z⟩) ?_) | refine oN ?_ | refine aS ?_ | refine aR ?_ | refine aT ?_ | refine oY rfl rfl rfl ?_ | refine oZ rfl rfl rfl ?_ | refine oO rfl rfl rfl ?_ | refine oIf rfl rfl rfl (by omega) ?_) <;> (try conv => whnf))
        all_goals (exact rfl)
end Go.Proofs.Tryz

namespace Go.Proofs.Tryz
open Go.Fw Go.IntWalk Go.Plain
set_option maxRecDepth 100000
set_option maxHeartbeats 8000000
abbrev Fn (f : Nat) : SV := (false, [.fn f [] []])
theorem parseFr1_ok {s : List UInt8} (hl : s.length ≤ 1000000) {n : Int} (h : wN false 4 s = some n) : Sat cx.P cx.gl 86 [SS s] (.tup [I n, Bo true]) := by
  have c := wNumber_ok (d := 4) (by decide) hl h
  refine Sat_of_awp (fn := f86) cx_ok (by kernel_rfl) (by kernel_rfl) rfl (by kernel_rfl) (Nat.le_of_ble_eq_true rfl) ?_
  repeat ((first | refine oP rfl ?_ | refine rP rfl (fun _ z => z) ?_ | (refine kO 7 rfl ?_; refine rG (fun _ z => ⟨_, c, z⟩) ?_) | refine oN ?_ | refine aS ?_ | refine aR ?_ | refine aT ?_); (try conv => whnf))
  (rfl)
theorem parseFr1_no {s : List UInt8} (hl : s.length ≤ 1000000) (h : wN false 4 s = none) : ∃ v, Sat cx.P cx.gl 86 [SS s] (.tup [I v, Bo false]) := by
  obtain ⟨v, c⟩ := wNumber_no (d := 4) hl h
  refine ⟨v, ?_⟩
  refine Sat_of_awp (fn := f86) cx_ok (by kernel_rfl) (by kernel_rfl) rfl (by kernel_rfl) (Nat.le_of_ble_eq_true rfl) ?_
  repeat ((first | refine oP rfl ?_ | refine rP rfl (fun _ z => z) ?_ | (refine kO 7 rfl ?_; refine rG (fun _ z => ⟨_, c, z⟩) ?_) | refine oN ?_ | refine aS ?_ | refine aR ?_ | refine aT ?_); (try conv => whnf))
  (rfl)
theorem parseFr1_any {s : List UInt8} (hl : s.length ≤ 1000000) : ∃ v, Sat cx.P cx.gl 86 [SS s] (.tup [I v, Bo (wN false 4 s).isSome]) ∧ ∀ n, wN false 4 s = some n → v = n := by
  cases h : wN false 4 s with
  | some n => exact ⟨n, parseFr1_ok hl h, fun m hm => by simpa using hm⟩
  | none =>
    obtain ⟨v, c⟩ := parseFr1_no hl h
    exact ⟨v, c, fun m hm => by cases hm⟩
theorem two_any (s : List UInt8) (hl : s.length ≤ 1000000) : ∃ v u, Sat cx.P cx.gl 85 [SS s, SS [47], Fn 86] (.tup [I v, I u, Bo (frN s).isSome]) ∧ ∀ p, frN s = some p → p = (v, u) := by
  rcases cut_spl s 47 with ⟨h1, h2⟩ | ⟨a, b, h1, h2, h3, h4⟩
  · have c1 := cut2_sat s 47 hl
    rw [h1] at c1
    obtain ⟨v, c2, _⟩ := parseFr1_any hl
    obtain ⟨u, c3, _⟩ := parseFr1_any (s := []) (by simp)
    have e : frN s = none := twoN_no h2
    rw [e]
    refine ⟨v, u, ?_, fun p hp => by cases hp⟩
    show Sat _ _ _ _ (.tup [I v, I u, Bo false])
    generalize (wN false 4 s).isSome = x at *
    generalize (wN false 4 []).isSome = y at *
    refine Sat_of_awp (fn := f85) cx_ok (by kernel_rfl) (by kernel_rfl) rfl (by kernel_rfl) (Nat.le_of_ble_eq_true rfl) ?_
    repeat' ((first | refine oP rfl ?_ | refine rP rfl (fun _ z => z) ?_ | (refine kO 7 rfl ?_; first | refine rG (fun _ z => ⟨_, c1, z⟩) ?_ | refine rG (fun _ z => ⟨_, c2, z⟩) ?_ | refine rG (fun _ z => ⟨_, c3, z⟩) ?_) | refine oN ?_ | refine aS ?_ | refine aR ?_ | refine aT ?_ | refine oZ rfl rfl rfl ?_) <;> (try conv => whnf))
    all_goals (exact rfl)
  · have c1 := cut2_sat s 47 hl
    rw [h1] at c1
    obtain ⟨v, c2, k2⟩ := parseFr1_any (s := a) (by omega)
    obtain ⟨u, c3, k3⟩ := parseFr1_any (s := b) (by omega)
    have e : frN s = (wN false 4 a).bind fun x => (wN false 4 b).map fun y => (x, y) := by
      unfold frN
      exact twoN_at (c := 47) (fun s => part_no (.inl rfl)) h2
    rw [e]
    refine ⟨v, u, ?_, fun p hp => ?_⟩
    · rw [bind2.1]
      clear e k2 k3
      generalize (wN false 4 a).isSome = x at *
      generalize (wN false 4 b).isSome = y at *
      refine Sat_of_awp (fn := f85) cx_ok (by kernel_rfl) (by kernel_rfl) rfl (by kernel_rfl) (Nat.le_of_ble_eq_true rfl) ?_
      repeat' ((first | refine oP rfl ?_ | refine rP rfl (fun _ z => z) ?_ | (refine kO 7 rfl ?_; first | refine rG (fun _ z => ⟨_, c1, z⟩) ?_ | refine rG (fun _ z => ⟨_, c2, z⟩) ?_ | refine rG (fun _ z => ⟨_, c3, z⟩) ?_) | refine oN ?_ | refine aS ?_ | refine aR ?_ | refine aT ?_ | refine oY rfl rfl rfl ?_ | refine opsA_ifp rfl rfl rfl (fun h => ?_) (fun h => ?_)) <;> (try conv => whnf))
      all_goals (cases x <;> first | (exact rfl) | (exact absurd rfl h) | (cases h))
    · obtain ⟨h5, h6⟩ := bind2.2 p hp
      rw [k2 _ h5, k3 _ h6]
theorem wParseFr_any (s : List UInt8) (hl : s.length ≤ 1000000) : ∃ v u, Sat cx.P cx.gl 56 [SS s] (.tup [F2 v u, Bo (frN s).isSome]) ∧ ∀ p, frN s = some p → p = (v, u) := by
  obtain ⟨v, u, c, k⟩ := two_any s hl
  refine ⟨v, u, ?_, k⟩
  generalize (frN s).isSome = x at *
  refine Sat_of_awp (fn := f56) cx_ok (by kernel_rfl) (by kernel_rfl) rfl (by kernel_rfl) (Nat.le_of_ble_eq_true rfl) ?_
  repeat ((first | refine oP rfl ?_ | refine rP rfl (fun _ z => z) ?_ | (refine kO 4 rfl ?_; refine rG (fun _ z => z) ?_) | (refine kO 7 rfl ?_; refine rG (fun _ z => ⟨_, c, z⟩) ?_) | refine oN ?_ | refine aS ?_ | refine aR ?_ | refine aT ?_); (try conv => whnf))
  (rfl)
theorem two2_any (s : List UInt8) (hl : s.length ≤ 1000000) : ∃ v u v' u', Sat cx.P cx.gl 55 [SS s, SS [32], Fn 56] (.tup [F2 v u, F2 v' u', Bo (spN s).isSome]) ∧ ∀ p, spN s = some p → p = (v, u, v', u') := by
  rcases cut_spl s 32 with ⟨h1, h2⟩ | ⟨a, b, h1, h2, h3, h4⟩
  · have c1 := cut2_sat s 32 hl
    rw [h1] at c1
    obtain ⟨v, u, c2, _⟩ := wParseFr_any s hl
    obtain ⟨v', u', c3, _⟩ := wParseFr_any [] (by simp)
    have e : spN s = none := by unfold spN; rw [twoN_no h2]; rfl
    rw [e]
    refine ⟨v, u, v', u', ?_, fun p hp => by cases hp⟩
    show Sat _ _ _ _ (.tup [F2 v u, F2 v' u', Bo false])
    generalize (frN s).isSome = x at *
    generalize (frN []).isSome = y at *
    refine Sat_of_awp (fn := f55) cx_ok (by kernel_rfl) (by kernel_rfl) rfl (by kernel_rfl) (Nat.le_of_ble_eq_true rfl) ?_
    repeat' ((first | refine oP rfl ?_ | refine rP rfl (fun _ z => z) ?_ | (refine kO 3 rfl ?_; refine rG (fun _ z => z) ?_) | (refine kO 4 rfl ?_; refine rG (fun _ z => z) ?_) | (refine kO 7 rfl ?_; first | refine rG (fun _ z => ⟨_, c1, z⟩) ?_ | refine rG (fun _ z => ⟨_, c2, z⟩) ?_ | refine rG (fun _ z => ⟨_, c3, z⟩) ?_) | refine oN ?_ | refine aS ?_ | refine aR ?_ | refine aT ?_ | refine oZ rfl rfl rfl ?_ | refine dI (by kernel_rfl) ?_) <;> (try conv => whnf))
    all_goals (exact rfl)
  · have c1 := cut2_sat s 32 hl
    rw [h1] at c1
    obtain ⟨v, u, c2, k2⟩ := wParseFr_any a (by omega)
    obtain ⟨v', u', c3, k3⟩ := wParseFr_any b (by omega)
    have e : spN s = ((frN a).bind fun x => (frN b).map fun y => (x, y)).map fun p => (p.1.1, p.1.2, p.2.1, p.2.2) := by
      unfold spN
      rw [twoN_at (c := 32) (fun s => fr_no) h2]
    rw [e]
    refine ⟨v, u, v', u', ?_, fun p hp => ?_⟩
    · rw [Option.isSome_map, bind2.1]
      clear e k2 k3
      generalize (frN a).isSome = x at *
      generalize (frN b).isSome = y at *
      refine Sat_of_awp (fn := f55) cx_ok (by kernel_rfl) (by kernel_rfl) rfl (by kernel_rfl) (Nat.le_of_ble_eq_true rfl) ?_
      repeat' ((first | refine oP rfl ?_ | refine rP rfl (fun _ z => z) ?_ | (refine kO 3 rfl ?_; refine rG (fun _ z => z) ?_) | (refine kO 4 rfl ?_; refine rG (fun _ z => z) ?_) | (refine kO 7 rfl ?_; first | refine rG (fun _ z => ⟨_, c1, z⟩) ?_ | refine rG (fun _ z => ⟨_, c2, z⟩) ?_ | refine rG (fun _ z => ⟨_, c3, z⟩) ?_) | refine oN ?_ | refine aS ?_ | refine aR ?_ | refine aT ?_ | refine oY rfl rfl rfl ?_ | refine dI (by kernel_rfl) ?_ | refine opsA_ifp rfl rfl rfl (fun h => ?_) (fun h => ?_)) <;> (try conv => whnf))
      all_goals (cases x <;> first | (exact rfl) | (exact absurd rfl h) | (cases h))
    · obtain ⟨z, hz, rfl⟩ := Option.map_eq_some_iff.1 hp
      obtain ⟨h5, h6⟩ := bind2.2 z hz
      rw [k2 _ h5, k3 _ h6]
theorem wParseSp_any (s : List UInt8) (hl : s.length ≤ 1000000) : ∃ q, Sat cx.P cx.gl 31 [SS s] (.tup [(true, sp q), Bo (spN s).isSome]) ∧ ∀ p, spN s = some p → p = q := by
  obtain ⟨v, u, v', u', c, k⟩ := two2_any s hl
  refine ⟨(v, u, v', u'), ?_, k⟩
  generalize (spN s).isSome = x at *
  refine Sat_of_awp (fn := f31) cx_ok (by kernel_rfl) (by kernel_rfl) rfl (by kernel_rfl) (Nat.le_of_ble_eq_true rfl) ?_
  repeat ((first | refine oP rfl ?_ | refine rP rfl (fun _ z => z) ?_ | (refine kO 3 rfl ?_; refine rG (fun _ z => z) ?_) | (refine kO 4 rfl ?_; refine rG (fun _ z => z) ?_) | (refine kO 7 rfl ?_; refine rG (fun _ z => ⟨_, c, z⟩) ?_) | refine oN ?_ | refine aS ?_ | refine aR ?_ | refine aT ?_); (try conv => whnf))
  (rfl)
end Go.Proofs.Tryz
