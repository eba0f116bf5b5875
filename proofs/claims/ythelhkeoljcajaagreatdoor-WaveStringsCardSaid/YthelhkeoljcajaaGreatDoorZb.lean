/- Parts of the proof, joined. -/
import Derived.Test.YthelhkeoljcajaaGreatDoorZa
import Derived.Test.YthelhkeoljcajaaGreatDoorVa
namespace Go.Proofs.Tryz
open Go.Fw Go.IntWalk Go.Plain
set_option maxRecDepth 100000
set_option maxHeartbeats 8000000
theorem part_any (s : List UInt8) (hl : s.length ≤ 1000000) : ∃ v, Sat cx.P cx.gl 39 [SS s] (.tup [I v, Bo (wN false 4 s).isSome]) ∧ ∀ n, wN false 4 s = some n → v = n := by
  have c := number_sat s 4 (by decide) hl
  cases h : numN 4 s with
  | none =>
    rw [h] at c
    rw [wN_none h]
    refine ⟨0, ?_, fun n hn => by cases hn⟩
    refine Sat_of_awp (fn := f39) cx_ok (by kernel_rfl) (by kernel_rfl) rfl (by kernel_rfl) (Nat.le_of_ble_eq_true rfl) ?_
    repeat' ((first | refine oP rfl ?_ | refine rP rfl (fun _ z => z) ?_ | (refine kO 7 rfl ?_; refine rG (fun _ z => ⟨_, c, z⟩) ?_) | refine oN ?_ | refine aS ?_ | refine aR ?_ | refine aT ?_ | refine oZ rfl rfl rfl ?_ | refine dI (by kernel_rfl) ?_) <;> (try conv => whnf))
    all_goals exact rfl
  | some n =>
    rw [h] at c
    have hlen := numN_len h
    rw [wN_pos h]
    by_cases h45 : (s.getD 0 0).toNat = 45
    · rw [if_pos h45]
      refine ⟨n, ?_, fun n hn => by cases hn⟩
      refine Sat_of_awp (fn := f39) cx_ok (by kernel_rfl) (by kernel_rfl) rfl (by kernel_rfl) (Nat.le_of_ble_eq_true rfl) ?_
      repeat ((first | refine oP rfl ?_ | refine rP rfl (fun _ z => z) ?_ | refine oN ?_ | refine aS ?_ | refine aR ?_); (try conv => whnf))
      repeat ((first | refine oP rfl ?_ | refine rP rfl (fun _ z => z) ?_ | (refine kO 1 rfl ?_; refine rG (fun _ z => z) ?_) | (refine kO 7 rfl ?_; refine rG (fun _ z => ⟨_, c, z⟩) ?_) | (refine kO 8 rfl ?_; refine rSIdx rfl rfl rfl rfl rfl (by omega) ?_) | refine oN ?_ | refine aS ?_ | refine aR ?_ | refine aT ?_ | refine oY rfl rfl rfl ?_ | refine dI (by kernel_rfl) ?_); (try conv => whnf))
      exact tupB (c := false) (by rw [h45]; rfl)
    · rw [if_neg h45]
      refine ⟨n, ?_, fun m hm => by simpa using hm⟩
      refine Sat_of_awp (fn := f39) cx_ok (by kernel_rfl) (by kernel_rfl) rfl (by kernel_rfl) (Nat.le_of_ble_eq_true rfl) ?_
      repeat ((first | refine oP rfl ?_ | refine rP rfl (fun _ z => z) ?_ | refine oN ?_ | refine aS ?_ | refine aR ?_); (try conv => whnf))
      repeat ((first | refine oP rfl ?_ | refine rP rfl (fun _ z => z) ?_ | (refine kO 1 rfl ?_; refine rG (fun _ z => z) ?_) | (refine kO 7 rfl ?_; refine rG (fun _ z => ⟨_, c, z⟩) ?_) | (refine kO 8 rfl ?_; refine rSIdx rfl rfl rfl rfl rfl (by omega) ?_) | refine oN ?_ | refine aS ?_ | refine aR ?_ | refine aT ?_ | refine oY rfl rfl rfl ?_ | refine dI (by kernel_rfl) ?_); (try conv => whnf))
      exact tupB (c := true) (bne_iff_ne.2 (by omega))
theorem refFr_any (s : List UInt8) (hl : s.length ≤ 10000) : ∃ v u, Sat cx.P cx.gl 76 [SS s] (.tup [F2 v u, Bo (frN s).isSome]) ∧ ∀ p, frN s = some p → p = (v, u) := by
  obtain ⟨h3, h4⟩ := spl_len 47 s
  have c1 := cut_sat s 47 (by omega)
  rw [show (47 : UInt8).toNat = 47 from rfl, cutR_spl] at c1
  have e : frN s = twoL (wN false 4) (wN false 4) (spl 47 s) := rfl
  rw [e]
  clear e
  generalize spl 47 s = ws at *
  have hn := strs_len ws
  match ws, h4 with
  | [], _ =>
    refine ⟨0, 0, ?_, fun p hp => by cases hp⟩
    refine Sat_of_awp (fn := f76) cx_ok (by kernel_rfl) (by kernel_rfl) rfl (by kernel_rfl) (Nat.le_of_ble_eq_true rfl) ?_
    refine aS ?_; (refine aR ?_; conv => whnf); repeat ((first | refine oP rfl ?_ | refine rP rfl (fun _ z => z) ?_ | refine oN ?_); (try conv => whnf))
    refine awp_seqw ?_; (refine aR ?_; conv => whnf); repeat ((first | refine oP rfl ?_ | refine rP rfl (fun _ z => z) ?_ | (refine kO 7 rfl ?_; refine rG (fun _ z => ⟨_, c1, z⟩) ?_) | refine oN ?_); (try conv => whnf))
    refine ⟨_, freeze_sub 3 rfl, ?_⟩
    repeat ((first | refine oP rfl ?_ | refine rP rfl (fun _ z => z) ?_ | (refine kO 1 rfl ?_; refine rG (fun _ z => z) ?_) | (refine kO 4 rfl ?_; refine rG (fun _ z => z) ?_) | (refine kO 6 rfl ?_; refine rLenov rfl rfl rfl rfl rfl rfl rfl ?_) | refine oN ?_ | refine aS ?_ | refine aR ?_ | refine aT ?_ | refine aC rfl ?_ | refine bT ?_); (try conv => whnf))
    (rfl)
  | [a], _ =>
    refine ⟨0, 0, ?_, fun p hp => by cases hp⟩
    refine Sat_of_awp (fn := f76) cx_ok (by kernel_rfl) (by kernel_rfl) rfl (by kernel_rfl) (Nat.le_of_ble_eq_true rfl) ?_
    refine aS ?_; (refine aR ?_; conv => whnf); repeat ((first | refine oP rfl ?_ | refine rP rfl (fun _ z => z) ?_ | refine oN ?_); (try conv => whnf))
    refine awp_seqw ?_; (refine aR ?_; conv => whnf); repeat ((first | refine oP rfl ?_ | refine rP rfl (fun _ z => z) ?_ | (refine kO 7 rfl ?_; refine rG (fun _ z => ⟨_, c1, z⟩) ?_) | refine oN ?_); (try conv => whnf))
    refine ⟨_, freeze_sub 3 rfl, ?_⟩
    repeat ((first | refine oP rfl ?_ | refine rP rfl (fun _ z => z) ?_ | (refine kO 1 rfl ?_; refine rG (fun _ z => z) ?_) | (refine kO 4 rfl ?_; refine rG (fun _ z => z) ?_) | (refine kO 6 rfl ?_; refine rLenov rfl rfl rfl rfl rfl rfl rfl ?_) | refine oN ?_ | refine aS ?_ | refine aR ?_ | refine aT ?_ | refine aC rfl ?_ | refine bT ?_); (try conv => whnf))
    (rfl)
  | [a, b], h4 =>
    obtain ⟨v, c2, k2⟩ := part_any a (by have := h4 a (by simp); omega)
    obtain ⟨u, c3, k3⟩ := part_any b (by have := h4 b (by simp); omega)
    refine ⟨v, u, ?_, fun p hp => ?_⟩
    · show Sat _ _ _ _ (.tup [F2 v u, Bo (Option.isSome ((wN false 4 a).bind fun x => (wN false 4 b).map fun y => (x, y)))])
      rw [bind2.1]
      clear k2 k3
      generalize (wN false 4 a).isSome = x at *
      generalize (wN false 4 b).isSome = y at *
      refine Sat_of_awp (fn := f76) cx_ok (by kernel_rfl) (by kernel_rfl) rfl (by kernel_rfl) (Nat.le_of_ble_eq_true rfl) ?_
      refine aS ?_; (refine aR ?_; conv => whnf); repeat ((first | refine oP rfl ?_ | refine rP rfl (fun _ z => z) ?_ | refine oN ?_); (try conv => whnf))
      refine awp_seqw ?_; (refine aR ?_; conv => whnf); repeat ((first | refine oP rfl ?_ | refine rP rfl (fun _ z => z) ?_ | (refine kO 7 rfl ?_; refine rG (fun _ z => ⟨_, c1, z⟩) ?_) | refine oN ?_); (try conv => whnf))
      refine ⟨_, freeze_sub 3 rfl, ?_⟩
      repeat' ((first | refine oP rfl ?_ | refine rP rfl (fun _ z => z) ?_ | (refine kO 1 rfl ?_; refine rG (fun _ z => z) ?_) | (refine kO 3 rfl ?_; refine rG (fun _ z => ⟨_, rfl, z⟩) ?_) | (refine kO 4 rfl ?_; refine rG (fun _ z => z) ?_) | (refine kO 5 rfl ?_; refine rIdoN rfl rfl rfl rfl rfl rfl rfl rfl (by exact Nat.le_of_ble_eq_true rfl) ?_) | (refine kO 7 rfl ?_; first | refine rG (fun _ z => ⟨_, c2, z⟩) ?_ | refine rG (fun _ z => ⟨_, c3, z⟩) ?_) | (refine kO 6 rfl ?_; refine rLenov rfl rfl rfl rfl rfl rfl rfl ?_) | refine oN ?_ | refine aS ?_ | refine aR ?_ | refine aK ?_ | refine aT ?_ | refine aC rfl ?_ | refine bF ?_ | refine opsA_ifp rfl rfl rfl (fun h => ?_) (fun h => ?_)) <;> (try conv => whnf))
      all_goals (cases x <;> first | (exact rfl) | (exact absurd rfl h) | (cases h))
    · obtain ⟨h5, h6⟩ := bind2.2 p hp
      rw [k2 _ h5, k3 _ h6]
  | a :: b :: c :: r, _ =>
    have hlen : (strs (a :: b :: c :: r)).length = r.length + 3 := by simp
    refine ⟨0, 0, ?_, fun p hp => by cases hp⟩
    refine Sat_of_awp (fn := f76) cx_ok (by kernel_rfl) (by kernel_rfl) rfl (by kernel_rfl) (Nat.le_of_ble_eq_true rfl) ?_
    refine aS ?_; (refine aR ?_; conv => whnf); repeat ((first | refine oP rfl ?_ | refine rP rfl (fun _ z => z) ?_ | refine oN ?_); (try conv => whnf))
    refine awp_seqw ?_; (refine aR ?_; conv => whnf); repeat ((first | refine oP rfl ?_ | refine rP rfl (fun _ z => z) ?_ | (refine kO 7 rfl ?_; refine rG (fun _ z => ⟨_, c1, z⟩) ?_) | refine oN ?_); (try conv => whnf))
    refine ⟨_, freeze_sub 3 rfl, ?_⟩
    repeat ((first | refine oP rfl ?_ | refine rP rfl (fun _ z => z) ?_ | (refine kO 1 rfl ?_; refine rG (fun _ z => z) ?_) | (refine kO 4 rfl ?_; refine rG (fun _ z => z) ?_) | (refine kO 6 rfl ?_; refine rLenov rfl rfl rfl rfl rfl rfl rfl ?_) | refine oN ?_ | refine aS ?_ | refine aR ?_ | refine aT ?_ | refine aC rfl ?_ | refine bT ?_); (try conv => whnf))
    (rfl)
theorem refSp_any (s : List UInt8) (hl : s.length ≤ 10000) : ∃ q, Sat cx.P cx.gl 40 [SS s] (.tup [(true, sp q), Bo (spN s).isSome]) ∧ ∀ p, spN s = some p → p = q := by
  obtain ⟨h3, h4⟩ := spl_len 32 s
  have c1 := cut_sat s 32 (by omega)
  rw [show (32 : UInt8).toNat = 32 from rfl, cutR_spl] at c1
  have e : spN s = (twoL frN frN (spl 32 s)).map (fun p => (p.1.1, p.1.2, p.2.1, p.2.2)) := rfl
  rw [e]
  clear e
  generalize spl 32 s = ws at *
  have hn := strs_len ws
  match ws, h4 with
  | [], _ =>
    refine ⟨(0, 0, 0, 0), ?_, fun p hp => by cases hp⟩
    refine Sat_of_awp (fn := f40) cx_ok (by kernel_rfl) (by kernel_rfl) rfl (by kernel_rfl) (Nat.le_of_ble_eq_true rfl) ?_
    refine aS ?_; (refine aR ?_; conv => whnf); repeat ((first | refine oP rfl ?_ | refine rP rfl (fun _ z => z) ?_ | refine oN ?_); (try conv => whnf))
    refine awp_seqw ?_; (refine aR ?_; conv => whnf); repeat ((first | refine oP rfl ?_ | refine rP rfl (fun _ z => z) ?_ | (refine kO 7 rfl ?_; refine rG (fun _ z => ⟨_, c1, z⟩) ?_) | refine oN ?_); (try conv => whnf))
    refine ⟨_, freeze_sub 3 rfl, ?_⟩
    repeat ((first | refine oP rfl ?_ | refine rP rfl (fun _ z => z) ?_ | (refine kO 1 rfl ?_; refine rG (fun _ z => z) ?_) | (refine kO 4 rfl ?_; refine rG (fun _ z => z) ?_) | (refine kO 6 rfl ?_; refine rLenov rfl rfl rfl rfl rfl rfl rfl ?_) | refine oN ?_ | refine aS ?_ | refine aR ?_ | refine aT ?_ | refine aC rfl ?_ | refine bT ?_); (try conv => whnf))
    (rfl)
  | [a], _ =>
    refine ⟨(0, 0, 0, 0), ?_, fun p hp => by cases hp⟩
    refine Sat_of_awp (fn := f40) cx_ok (by kernel_rfl) (by kernel_rfl) rfl (by kernel_rfl) (Nat.le_of_ble_eq_true rfl) ?_
    refine aS ?_; (refine aR ?_; conv => whnf); repeat ((first | refine oP rfl ?_ | refine rP rfl (fun _ z => z) ?_ | refine oN ?_); (try conv => whnf))
    refine awp_seqw ?_; (refine aR ?_; conv => whnf); repeat ((first | refine oP rfl ?_ | refine rP rfl (fun _ z => z) ?_ | (refine kO 7 rfl ?_; refine rG (fun _ z => ⟨_, c1, z⟩) ?_) | refine oN ?_); (try conv => whnf))
    refine ⟨_, freeze_sub 3 rfl, ?_⟩
    repeat ((first | refine oP rfl ?_ | refine rP rfl (fun _ z => z) ?_ | (refine kO 1 rfl ?_; refine rG (fun _ z => z) ?_) | (refine kO 4 rfl ?_; refine rG (fun _ z => z) ?_) | (refine kO 6 rfl ?_; refine rLenov rfl rfl rfl rfl rfl rfl rfl ?_) | refine oN ?_ | refine aS ?_ | refine aR ?_ | refine aT ?_ | refine aC rfl ?_ | refine bT ?_); (try conv => whnf))
    (rfl)
  | [a, b], h4 =>
    obtain ⟨v, u, c2, k2⟩ := refFr_any a (by have := h4 a (by simp); omega)
    obtain ⟨v', u', c3, k3⟩ := refFr_any b (by have := h4 b (by simp); omega)
    refine ⟨(v, u, v', u'), ?_, fun p hp => ?_⟩
    · show Sat _ _ _ _ (.tup [(true, sp (v, u, v', u')), Bo (Option.isSome (((frN a).bind fun x => (frN b).map fun y => (x, y)).map fun p => (p.1.1, p.1.2, p.2.1, p.2.2)))])
      rw [Option.isSome_map, bind2.1]
      clear k2 k3
      generalize (frN a).isSome = x at *
      generalize (frN b).isSome = y at *
      refine Sat_of_awp (fn := f40) cx_ok (by kernel_rfl) (by kernel_rfl) rfl (by kernel_rfl) (Nat.le_of_ble_eq_true rfl) ?_
      refine aS ?_; (refine aR ?_; conv => whnf); repeat ((first | refine oP rfl ?_ | refine rP rfl (fun _ z => z) ?_ | refine oN ?_); (try conv => whnf))
      refine awp_seqw ?_; (refine aR ?_; conv => whnf); repeat ((first | refine oP rfl ?_ | refine rP rfl (fun _ z => z) ?_ | (refine kO 7 rfl ?_; refine rG (fun _ z => ⟨_, c1, z⟩) ?_) | refine oN ?_); (try conv => whnf))
      refine ⟨_, freeze_sub 3 rfl, ?_⟩
      repeat' ((first | refine oP rfl ?_ | refine rP rfl (fun _ z => z) ?_ | (refine kO 1 rfl ?_; refine rG (fun _ z => z) ?_) | (refine kO 3 rfl ?_; first | refine rG (fun _ z => z) ?_ | refine rG (fun _ z => ⟨_, rfl, z⟩) ?_) | (refine kO 4 rfl ?_; refine rG (fun _ z => z) ?_) | (refine kO 5 rfl ?_; refine rIdoN rfl rfl rfl rfl rfl rfl rfl rfl (by exact Nat.le_of_ble_eq_true rfl) ?_) | (refine kO 7 rfl ?_; first | refine rG (fun _ z => ⟨_, c2, z⟩) ?_ | refine rG (fun _ z => ⟨_, c3, z⟩) ?_) | (refine kO 6 rfl ?_; refine rLenov rfl rfl rfl rfl rfl rfl rfl ?_) | refine oN ?_ | refine aS ?_ | refine aR ?_ | refine aK ?_ | refine aT ?_ | refine aC rfl ?_ | refine bF ?_ | refine opsA_ifp rfl rfl rfl (fun h => ?_) (fun h => ?_)) <;> (try conv => whnf))
      all_goals (cases x <;> first | (exact rfl) | (exact absurd rfl h) | (cases h))
    · obtain ⟨z, hz, rfl⟩ := Option.map_eq_some_iff.1 hp
      obtain ⟨h5, h6⟩ := bind2.2 z hz
      rw [k2 _ h5, k3 _ h6]
  | a :: b :: c :: r, _ =>
    have hlen : (strs (a :: b :: c :: r)).length = r.length + 3 := by simp
    refine ⟨(0, 0, 0, 0), ?_, fun p hp => by cases hp⟩
    refine Sat_of_awp (fn := f40) cx_ok (by kernel_rfl) (by kernel_rfl) rfl (by kernel_rfl) (Nat.le_of_ble_eq_true rfl) ?_
    refine aS ?_; (refine aR ?_; conv => whnf); repeat ((first | refine oP rfl ?_ | refine rP rfl (fun _ z => z) ?_ | refine oN ?_); (try conv => whnf))
    refine awp_seqw ?_; (refine aR ?_; conv => whnf); repeat ((first | refine oP rfl ?_ | refine rP rfl (fun _ z => z) ?_ | (refine kO 7 rfl ?_; refine rG (fun _ z => ⟨_, c1, z⟩) ?_) | refine oN ?_); (try conv => whnf))
    refine ⟨_, freeze_sub 3 rfl, ?_⟩
    repeat ((first | refine oP rfl ?_ | refine rP rfl (fun _ z => z) ?_ | (refine kO 1 rfl ?_; refine rG (fun _ z => z) ?_) | (refine kO 4 rfl ?_; refine rG (fun _ z => z) ?_) | (refine kO 6 rfl ?_; refine rLenov rfl rfl rfl rfl rfl rfl rfl ?_) | refine oN ?_ | refine aS ?_ | refine aR ?_ | refine aT ?_ | refine aC rfl ?_ | refine bT ?_); (try conv => whnf))
    (rfl)
end Go.Proofs.Tryz

namespace Go.Proofs.Tryz
open Go.Fw Go.IntWalk Go.Plain
set_option maxRecDepth 100000
set_option maxHeartbeats 8000000
theorem formatRecord_sat (st : Int) (l : List Int) (hl : l.length ≤ 70) (h1 : inJ st) (h2 : ∀ n ∈ l, inJ n) : Sat cx.P cx.gl 7 [Rc st l] (.one (SS (fmtRec st l))) := by
  have c0 := itoa_sat st h1
  have hf := fmtRec_join st l
  have hj := fmtRec_len h1 h2
  rw [hf] at hj ⊢
  rw [List.map_cons] at hj ⊢
  generalize Lib.itoa st = p at *
  refine Sat_of_awp (fn := f7) cx_ok (by kernel_rfl) (by kernel_rfl) rfl (by kernel_rfl) (Nat.le_of_ble_eq_true rfl) ?_
  repeat ((first | refine oP rfl ?_ | refine rP rfl (fun _ z => z) ?_ | (refine kO 3 rfl ?_; refine rLdb rfl rfl rfl rfl rfl rfl rfl ?_) | (refine kO 7 rfl ?_; refine rG (fun _ z => ⟨_, c0, z⟩) ?_) | (refine kO 6 rfl ?_; refine rLen rfl rfl rfl rfl rfl rfl ?_) | refine oN ?_ | refine aS ?_ | refine aR ?_ | refine aB ?_ | refine aL ?_); (try conv => whnf))
  refine loop_ind (ι := Nat) (fun i => i ≤ l.length) (fun i => l.length - i) (fun i => ⟨[(3, pO 1), (11, vL l), (12, vI l.length), (13, vI i)], [(1, some (.row true 1 (.view (strs (p :: (l.take i).map Lib.itoa)))))], 2⟩) 0 (canon_auto (by kernel_rfl)) (Nat.zero_le _) ?_
  intro i hi
  by_cases hlt : i < l.length
  · have hn := getD_in h2 hlt
    have c1 := itoa_sat _ hn
    have e := words_snoc hlt
    have hpl : (p :: (l.take i).map Lib.itoa).length ≤ 72 := by simp; omega
    have hpn := strs_len (p :: (l.take i).map Lib.itoa)
    have e' : p :: (l.take (i + 1)).map Lib.itoa = (p :: (l.take i).map Lib.itoa) ++ [Lib.itoa (l.getD i 0)] := by rw [e]; rfl
    generalize p :: (l.take i).map Lib.itoa = r at *
    have e2 := strs_snoc r (Lib.itoa (l.getD i 0))
    have u := strs_uni r (Lib.itoa (l.getD i 0))
    generalize Lib.itoa (l.getD i 0) = y at *
    repeat ((first | refine oP rfl ?_ | refine rP rfl (fun _ z => z) ?_ | (refine kO 1 rfl ?_; first | refine rAdd rfl rfl rfl (by omega) ?_ | refine rG (fun _ z => z) ?_) | (refine kO 3 rfl ?_; refine rLdr rfl rfl rfl rfl rfl ?_) | (refine kO 5 rfl ?_; refine rIdN rfl rfl rfl rfl rfl rfl rfl (by omega) ?_) | (refine kO 7 rfl ?_; refine rG (fun _ z => ⟨_, c1, z⟩) ?_) | refine oN ?_ | refine aS ?_ | refine aR ?_ | refine aK ?_ | refine aB ?_ | refine aC rfl ?_ | refine bPt (by omega) ?_ | refine rG (fun _ z => ⟨(by (exact uvS rfl)), (by (exact lvS (by omega))), z⟩) ?_); (try conv => whnf))
    exact ⟨i + 1, hlt, by omega, canon_auto (by rw [e', e2]; kernel_rfl)⟩
  · obtain rfl : i = l.length := by omega
    rw [List.take_length]
    have hrl : (p :: l.map Lib.itoa).length ≤ 71 := by simp; omega
    generalize p :: l.map Lib.itoa = r at *
    have c1 := join_sat r 32 (by omega) (by omega)
    generalize Lib.join r [32] = y at *
    repeat ((first | refine oP rfl ?_ | refine rP rfl (fun _ z => z) ?_ | (refine kO 1 rfl ?_; refine rG (fun _ z => z) ?_) | (refine kO 7 rfl ?_; refine rG (fun _ z => ⟨_, c1, z⟩) ?_) | refine oN ?_ | refine aS ?_ | refine aR ?_ | refine aX ?_ | refine aT ?_ | refine aC rfl ?_ | refine bPf (by omega) ?_); (try conv => whnf))
    (rfl)
theorem formatFr_sat (a b : Int) (h1 : inJ a) (h2 : inJ b) : Sat cx.P cx.gl 66 [F2 a b] (.one (SS (frS a b))) := by
  have c1 := itoa_sat a h1
  have c2 := itoa_sat b h2
  have l1 := itoa_len h1
  have l2 := itoa_len h2
  unfold frS
  generalize Lib.itoa a = x at *
  generalize Lib.itoa b = y at *
  refine Sat_of_awp (fn := f66) cx_ok (by kernel_rfl) (by kernel_rfl) rfl (by kernel_rfl) (Nat.le_of_ble_eq_true rfl) ?_
  repeat ((first | refine oP rfl ?_ | refine rP rfl (fun _ z => z) ?_ | (refine kO 1 rfl ?_; refine rSCat rfl rfl rfl (by (simp; omega)) ?_) | (refine kO 3 rfl ?_; refine rLdb rfl rfl rfl rfl rfl rfl rfl ?_) | (refine kO 7 rfl ?_; first | refine rG (fun _ z => ⟨_, c1, z⟩) ?_ | refine rG (fun _ z => ⟨_, c2, z⟩) ?_) | refine oN ?_ | refine aS ?_ | refine aR ?_ | refine aT ?_ | refine dI (by kernel_rfl) ?_); (try conv => whnf))
  (done)
theorem frS_len {a b : Int} (h1 : inJ a) (h2 : inJ b) : (frS a b).length ≤ 41 := by
  have := itoa_len h1
  have := itoa_len h2
  unfold frS
  simp only [List.length_append, List.length_cons, List.length_nil]; omega
theorem formatSp_sat (q : Sp) (h : inQ q) : Sat cx.P cx.gl 31 [(true, sp q)] (.one (SS (spS q))) := by
  obtain ⟨h1, h2, h3, h4⟩ := h
  have c1 := formatFr_sat _ _ h1 h2
  have c2 := formatFr_sat _ _ h3 h4
  have l1 := frS_len h1 h2
  have l2 := frS_len h3 h4
  unfold spS
  generalize frS q.1 q.2.1 = x at *
  generalize frS q.2.2.1 q.2.2.2 = y at *
  refine Sat_of_awp (fn := f31) cx_ok (by kernel_rfl) (by kernel_rfl) rfl (by kernel_rfl) (Nat.le_of_ble_eq_true rfl) ?_
  repeat ((first | refine oP rfl ?_ | refine rP rfl (fun _ z => z) ?_ | (refine kO 1 rfl ?_; refine rSCat rfl rfl rfl (by (simp; omega)) ?_) | (refine kO 3 rfl ?_; refine rG (fun _ z => z) ?_) | (refine kO 7 rfl ?_; first | refine rG (fun _ z => ⟨_, c1, z⟩) ?_ | refine rG (fun _ z => ⟨_, c2, z⟩) ?_) | refine oN ?_ | refine aS ?_ | refine aR ?_ | refine aT ?_ | refine dI (by kernel_rfl) ?_); (try conv => whnf))
  (done)
theorem refFr_sat (a b : Int) (h1 : inJ a) (h2 : inJ b) : Sat cx.P cx.gl 78 [F2 a b] (.one (SS (frS a b))) := by
  have c1 := decimal_sat a h1
  have c2 := decimal_sat b h2
  have l1 := itoa_len h1
  have l2 := itoa_len h2
  unfold frS
  generalize Lib.itoa a = x at *
  generalize Lib.itoa b = y at *
  refine Sat_of_awp (fn := f78) cx_ok (by kernel_rfl) (by kernel_rfl) rfl (by kernel_rfl) (Nat.le_of_ble_eq_true rfl) ?_
  repeat ((first | refine oP rfl ?_ | refine rP rfl (fun _ z => z) ?_ | (refine kO 1 rfl ?_; refine rSCat rfl rfl rfl (by (simp; omega)) ?_) | (refine kO 3 rfl ?_; refine rLdb rfl rfl rfl rfl rfl rfl rfl ?_) | (refine kO 7 rfl ?_; first | refine rG (fun _ z => ⟨_, c1, z⟩) ?_ | refine rG (fun _ z => ⟨_, c2, z⟩) ?_) | refine oN ?_ | refine aS ?_ | refine aR ?_ | refine aT ?_ | refine dI (by kernel_rfl) ?_); (try conv => whnf))
  (done)
theorem refSp_sat (q : Sp) (h : inQ q) : Sat cx.P cx.gl 42 [(true, sp q)] (.one (SS (spS q))) := by
  obtain ⟨h1, h2, h3, h4⟩ := h
  have c1 := refFr_sat _ _ h1 h2
  have c2 := refFr_sat _ _ h3 h4
  have l1 := frS_len h1 h2
  have l2 := frS_len h3 h4
  unfold spS
  generalize frS q.1 q.2.1 = x at *
  generalize frS q.2.2.1 q.2.2.2 = y at *
  refine Sat_of_awp (fn := f42) cx_ok (by kernel_rfl) (by kernel_rfl) rfl (by kernel_rfl) (Nat.le_of_ble_eq_true rfl) ?_
  repeat ((first | refine oP rfl ?_ | refine rP rfl (fun _ z => z) ?_ | (refine kO 1 rfl ?_; refine rSCat rfl rfl rfl (by (simp; omega)) ?_) | (refine kO 3 rfl ?_; refine rG (fun _ z => z) ?_) | (refine kO 7 rfl ?_; first | refine rG (fun _ z => ⟨_, c1, z⟩) ?_ | refine rG (fun _ z => ⟨_, c2, z⟩) ?_) | refine oN ?_ | refine aS ?_ | refine aR ?_ | refine aT ?_ | refine dI (by kernel_rfl) ?_); (try conv => whnf))
  (done)
theorem refFormatRecord_sat (st : Int) (l : List Int) (hl : l.length ≤ 70) (h1 : inJ st) (h2 : ∀ n ∈ l, inJ n) : Sat cx.P cx.gl 15 [Rc st l] (.one (SS (fmtRec st l))) := by
  have c0 := decimal_sat st h1
  have hpl := itoa_len h1
  unfold fmtRec
  generalize Lib.itoa st = p at *
  refine Sat_of_awp (fn := f15) cx_ok (by kernel_rfl) (by kernel_rfl) rfl (by kernel_rfl) (Nat.le_of_ble_eq_true rfl) ?_
  repeat ((first | refine oP rfl ?_ | refine rP rfl (fun _ z => z) ?_ | (refine kO 3 rfl ?_; refine rLdb rfl rfl rfl rfl rfl rfl rfl ?_) | (refine kO 7 rfl ?_; refine rG (fun _ z => ⟨_, c0, z⟩) ?_) | refine oN ?_ | refine aS ?_ | refine aR ?_ | refine aB ?_ | refine aL ?_); (try conv => whnf))
  refine loop_ind (ι := Nat) (fun i => i ≤ l.length) (fun i => l.length - i) (fun i => ⟨[(1, pP 0), (3, lS (p ++ catB (l.take i))), (4, vI i)], [(0, some (.box 24 [.st (J st), .st (.ints l)]))], 1⟩) 0 (canon_auto (by rw [List.take_zero, show catB [] = [] from rfl, List.append_nil]; kernel_rfl)) (Nat.zero_le _) ?_
  intro i hi
  by_cases hlt : i < l.length
  · have c1 := decimal_sat _ (getD_in h2 hlt)
    have hy := itoa_len (getD_in h2 hlt)
    have e : p ++ catB (l.take (i + 1)) = p ++ catB (l.take i) ++ [32] ++ Lib.itoa (l.getD i 0) := by rw [catB_snoc hlt]; simp
    have hp := catB_len (take_in h2 (i := i))
    have hp2 : (l.take i).length ≤ 70 := by simp; omega
    have hp3 : (p ++ catB (l.take i)).length ≤ 2000 := by rw [List.length_append]; omega
    generalize p ++ catB (l.take i) = r at *
    generalize Lib.itoa (l.getD i 0) = y at *
    repeat ((first | refine oP rfl ?_ | refine rP rfl (fun _ z => z) ?_ | (refine kO 1 rfl ?_; first | refine rSCat rfl rfl rfl (by (simp; omega)) ?_ | refine rAdd rfl rfl rfl (by omega) ?_ | refine rG (fun _ z => z) ?_) | (refine kO 3 rfl ?_; first | refine rLdr rfl rfl rfl rfl rfl ?_ | refine rLdb rfl rfl rfl rfl rfl rfl rfl ?_) | (refine kO 5 rfl ?_; refine rIdN rfl rfl rfl rfl rfl rfl rfl (by omega) ?_) | (refine kO 7 rfl ?_; refine rG (fun _ z => ⟨_, c1, z⟩) ?_) | (refine kO 6 rfl ?_; refine rLen rfl rfl rfl rfl rfl rfl ?_) | refine oN ?_ | refine aS ?_ | refine aR ?_ | refine aK ?_ | refine aB ?_ | refine aC rfl ?_ | refine bPt (by omega) ?_); (try conv => whnf))
    exact ⟨i + 1, hlt, by omega, canon_auto (by rw [e]; kernel_rfl)⟩
  · obtain rfl : i = l.length := by omega
    rw [List.take_length]
    generalize p ++ catB l = r at *
    repeat ((first | refine oP rfl ?_ | refine rP rfl (fun _ z => z) ?_ | (refine kO 1 rfl ?_; refine rG (fun _ z => z) ?_) | (refine kO 3 rfl ?_; refine rLdb rfl rfl rfl rfl rfl rfl rfl ?_) | (refine kO 6 rfl ?_; refine rLen rfl rfl rfl rfl rfl rfl ?_) | refine oN ?_ | refine aS ?_ | refine aR ?_ | refine aX ?_ | refine aT ?_ | refine aC rfl ?_ | refine bPf (by omega) ?_); (try conv => whnf))
    (done)
end Go.Proofs.Tryz

namespace Go.Proofs.Tryz
open Go.Fw Go.IntWalk Go.Plain
set_option maxRecDepth 100000
set_option maxHeartbeats 8000000
theorem spS_snoc {l : List Sp} {i : Nat} (h : i < l.length) : (l.take (i + 1)).map spS = (l.take i).map spS ++ [spS (l.getD i (0, 0, 0, 0))] := by
  rw [takeD_snoc h (0, 0, 0, 0)]; simp
theorem formatRules_sat (e : Int) (q : Sp) (ch : List Sp) (hl : ch.length ≤ 6) (h1 : inJ e) (h2 : inQ q) (h3 : ∀ s ∈ ch, inQ s) : Sat cx.P cx.gl 9 [Ru e q ch] (.one (SS (fmtRul e q ch))) := by
  have c0 := itoa_sat e h1
  have c1 := formatSp_sat q h2
  have hj := fmtRul_len h1 h2 h3
  have hf := fmtRul_join e q ch
  have hlen : (ch.map sp).length = ch.length := List.length_map ..
  rw [hf] at hj ⊢
  rw [List.map_cons] at hj ⊢
  generalize Lib.itoa e = p at *
  generalize spS q = p' at *
  refine Sat_of_awp (fn := f9) cx_ok (by kernel_rfl) (by kernel_rfl) rfl (by kernel_rfl) (Nat.le_of_ble_eq_true rfl) ?_
  repeat ((first | refine oP rfl ?_ | refine rP rfl (fun _ z => z) ?_ | (refine kO 3 rfl ?_; first | refine rLdb rfl rfl rfl rfl rfl rfl rfl ?_ | refine rG (fun _ z => z) ?_) | (refine kO 7 rfl ?_; first | refine rG (fun _ z => ⟨_, c0, z⟩) ?_ | refine rG (fun _ z => ⟨_, c1, z⟩) ?_) | (refine kO 6 rfl ?_; refine rLenv rfl rfl rfl rfl rfl rfl ?_) | refine oN ?_ | refine aS ?_ | refine aR ?_ | refine aB ?_ | refine aL ?_ | refine dI (by kernel_rfl) ?_); (try conv => whnf))
  refine loop_ind (ι := Nat) (fun i => i ≤ ch.length) (fun i => ch.length - i) (fun i => ⟨[(3, pO 1), (14, some (.val (false, [.st (.view (ch.map sp))]))), (15, vI ch.length), (16, vI i)], [(1, some (.row true 1 (.view (strs (p :: p' :: (ch.take i).map spS)))))], 2⟩) 0 (canon_auto (by rw [← hlen]; kernel_rfl)) (Nat.zero_le _) ?_
  intro i hi
  by_cases hlt : i < ch.length
  · have hn := h3 _ (sp_mem hlt)
    have c1 := formatSp_sat _ hn
    have hget := sp_get hlt
    have e := spS_snoc hlt
    have hpl : (p :: p' :: (ch.take i).map spS).length ≤ 9 := by simp; omega
    have hpn := strs_len (p :: p' :: (ch.take i).map spS)
    have e' : p :: p' :: (ch.take (i + 1)).map spS = (p :: p' :: (ch.take i).map spS) ++ [spS (ch.getD i (0, 0, 0, 0))] := by rw [e]; rfl
    generalize p :: p' :: (ch.take i).map spS = r at *
    generalize hs : ch.getD i (0, 0, 0, 0) = s at *
    have e2 := strs_snoc r (spS s)
    have u := strs_uni r (spS s)
    generalize spS s = y at *
    repeat ((first | refine oP rfl ?_ | refine rP rfl (fun _ z => z) ?_ | (refine kO 1 rfl ?_; first | refine rAdd rfl rfl rfl (by omega) ?_ | refine rG (fun _ z => z) ?_) | (refine kO 3 rfl ?_; refine rG (fun _ z => z) ?_) | (refine kO 4 rfl ?_; refine rG (fun _ z => z) ?_) | (refine kO 5 rfl ?_; refine rIdvN rfl rfl rfl rfl rfl rfl (by assumption) rfl ?_) | (refine kO 7 rfl ?_; refine rG (fun _ z => ⟨_, c1, z⟩) ?_) | refine oN ?_ | refine aS ?_ | refine aR ?_ | refine aK ?_ | refine aB ?_ | refine aC rfl ?_ | refine bPt (by omega) ?_ | refine rG (fun _ z => ⟨(by (exact uvS rfl)), (by (exact lvS (by omega))), z⟩) ?_); (try conv => whnf))
    exact ⟨i + 1, hlt, by omega, canon_auto (by rw [e', e2]; kernel_rfl)⟩
  · obtain rfl : i = ch.length := by omega
    rw [List.take_length]
    have hrl : (p :: p' :: ch.map spS).length ≤ 9 := by simp; omega
    generalize p :: p' :: ch.map spS = r at *
    have c1 := join_sat r 59 (by omega) (by omega)
    generalize Lib.join r [59] = y at *
    repeat ((first | refine oP rfl ?_ | refine rP rfl (fun _ z => z) ?_ | (refine kO 1 rfl ?_; refine rG (fun _ z => z) ?_) | (refine kO 7 rfl ?_; refine rG (fun _ z => ⟨_, c1, z⟩) ?_) | refine oN ?_ | refine aS ?_ | refine aR ?_ | refine aX ?_ | refine aT ?_ | refine aC rfl ?_ | refine bPf (by omega) ?_); (try conv => whnf))
    (rfl)
theorem refFormatRules_sat (e : Int) (q : Sp) (ch : List Sp) (hl : ch.length ≤ 6) (h1 : inJ e) (h2 : inQ q) (h3 : ∀ s ∈ ch, inQ s) : Sat cx.P cx.gl 16 [Ru e q ch] (.one (SS (fmtRul e q ch))) := by
  have c0 := decimal_sat e h1
  have c1 := refSp_sat q h2
  have l0 := itoa_len h1
  have l1 := spS_len h2
  have hlen : (ch.map sp).length = ch.length := List.length_map ..
  unfold fmtRul
  have hp0 : (Lib.itoa e ++ [59] ++ spS q).length ≤ 104 := by simp only [List.length_append, List.length_cons, List.length_nil]; omega
  generalize Lib.itoa e = p at *
  generalize spS q = p' at *
  refine Sat_of_awp (fn := f16) cx_ok (by kernel_rfl) (by kernel_rfl) rfl (by kernel_rfl) (Nat.le_of_ble_eq_true rfl) ?_
  repeat ((first | refine oP rfl ?_ | refine rP rfl (fun _ z => z) ?_ | (refine kO 1 rfl ?_; refine rSCat rfl rfl rfl (by (simp; omega)) ?_) | (refine kO 3 rfl ?_; first | refine rLdb rfl rfl rfl rfl rfl rfl rfl ?_ | refine rG (fun _ z => z) ?_) | (refine kO 7 rfl ?_; first | refine rG (fun _ z => ⟨_, c0, z⟩) ?_ | refine rG (fun _ z => ⟨_, c1, z⟩) ?_) | refine oN ?_ | refine aS ?_ | refine aR ?_ | refine aB ?_ | refine aL ?_ | refine dI (by kernel_rfl) ?_); (try conv => whnf))
  generalize p ++ [59] ++ p' = r0 at *
  refine loop_ind (ι := Nat) (fun i => i ≤ ch.length) (fun i => ch.length - i) (fun i => ⟨[(1, pP 0), (3, lS (r0 ++ catS (ch.take i))), (4, vI i)], [(0, some (.box 31 [.st (J e), .st (J q.1), .st (J q.2.1), .st (J q.2.2.1), .st (J q.2.2.2), .st (.view (ch.map sp))]))], 1⟩) 0 (canon_auto (by rw [List.take_zero, show catS [] = [] from rfl, List.append_nil]; kernel_rfl)) (Nat.zero_le _) ?_
  intro i hi
  by_cases hlt : i < ch.length
  · have hn := h3 _ (sp_mem hlt)
    have c1 := refSp_sat _ hn
    have hy := spS_len hn
    have hget := sp_get hlt
    have e' : r0 ++ catS (ch.take (i + 1)) = r0 ++ catS (ch.take i) ++ [59] ++ spS (ch.getD i (0, 0, 0, 0)) := by rw [catS_snoc hlt]; simp
    have hp := catS_len (l := ch.take i) (fun s hs => h3 s (List.mem_of_mem_take hs))
    have hp2 : (ch.take i).length ≤ 6 := by simp; omega
    have hp3 : (r0 ++ catS (ch.take i)).length ≤ 2000 := by rw [List.length_append]; omega
    generalize r0 ++ catS (ch.take i) = r at *
    generalize hs : ch.getD i (0, 0, 0, 0) = s at *
    generalize spS s = y at *
    repeat ((first | refine oP rfl ?_ | refine rP rfl (fun _ z => z) ?_ | (refine kO 1 rfl ?_; first | refine rSCat rfl rfl rfl (by (simp; omega)) ?_ | refine rAdd rfl rfl rfl (by omega) ?_ | refine rG (fun _ z => z) ?_) | (refine kO 3 rfl ?_; first | refine rLdb rfl rfl rfl rfl rfl rfl rfl ?_ | refine rG (fun _ z => z) ?_) | (refine kO 5 rfl ?_; refine rIdvN rfl rfl rfl rfl rfl rfl (by assumption) rfl ?_) | (refine kO 7 rfl ?_; refine rG (fun _ z => ⟨_, c1, z⟩) ?_) | (refine kO 6 rfl ?_; refine rLenv rfl rfl rfl rfl rfl rfl ?_) | refine oN ?_ | refine aS ?_ | refine aR ?_ | refine aK ?_ | refine aB ?_ | refine aC rfl ?_ | refine bPt (by omega) ?_); (try conv => whnf))
    exact ⟨i + 1, hlt, by omega, canon_auto (by rw [e']; kernel_rfl)⟩
  · obtain rfl : i = ch.length := by omega
    rw [List.take_length]
    generalize r0 ++ catS ch = r at *
    repeat ((first | refine oP rfl ?_ | refine rP rfl (fun _ z => z) ?_ | (refine kO 1 rfl ?_; refine rG (fun _ z => z) ?_) | (refine kO 3 rfl ?_; refine rLdb rfl rfl rfl rfl rfl rfl rfl ?_) | (refine kO 6 rfl ?_; refine rLenv rfl rfl rfl rfl rfl rfl ?_) | refine oN ?_ | refine aS ?_ | refine aR ?_ | refine aX ?_ | refine aT ?_ | refine aC rfl ?_ | refine bPf (by omega) ?_); (try conv => whnf))
    (done)
end Go.Proofs.Tryz
