/- Parts of the proof, joined. -/
import Derived.Test.YtggfcjiahhjcnabGreatDoorVb
import Derived.Test.YtggfcjiahhjcnabGreatDoorM
import Derived.Test.YtggfcjiahhjcnabGreatDoorWb
import Derived.Test.YtggfcjiahhjcnabGreatDoorVa
namespace Go.Proofs.Tryz
open Go.Fw Go.IntWalk Go.Plain
set_option maxRecDepth 100000
set_option maxHeartbeats 8000000
abbrev bdQ (x : Qn) : Prop := (-5000 ≤ x.1 ∧ x.1 ≤ 5000) ∧ 1 ≤ x.2 ∧ x.2 ≤ 5000
abbrev bdS (s : Iv) : Prop := bdQ s.1 ∧ bdQ s.2
abbrev qv (x : Qn) : SV := (true, [J x.1, J x.2])
abbrev iv (s : Iv) : List SC := [J s.1.1, J s.1.2, J s.2.1, J s.2.2]
theorem bd_mid {x y : Qn} (hx : bdQ x) (hy : bdQ y) : mid (x.1 * y.2) := by
  have := mulS (x := x.1) (y := y.2) (A := 5000) (B := 5000) hx.1 (by omega) (by omega)
  omega
theorem bd_pos {x : Qn} (h : bdQ x) : posQ x := by have := h.2.1; show 0 < x.2; omega
theorem bdS_pos {s : Iv} (h : bdS s) : posS s := ⟨bd_pos h.1, bd_pos h.2⟩
theorem qless_sat {x y : Qn} (hx : bdQ x) (hy : bdQ y) : Sat cx.P cx.gl 67 [qv x, qv y] (.one (Bo (decide (ltQ x y)))) := wLess_sat x.1 x.2 y.1 y.2 (bd_mid hx hy) (bd_mid hy hx)
theorem smaller_sat {x y : Qn} (hx : bdQ x) (hy : bdQ y) : Sat cx.P cx.gl 96 [qv x, qv y] (.one (qv (mnQ x y))) := by
  have g := qless_sat hy hx
  unfold mnQ
  by_cases h : ltQ y x
  · rw [decide_eq_true h] at g
    rw [if_pos h]
    refine Sat_of_awp (fn := f96) cx_ok (by kernel_rfl) (by kernel_rfl) rfl (by kernel_rfl) (Nat.le_of_ble_eq_true rfl) ?_
    repeat ((first | refine oP rfl ?_ | refine rP rfl (fun _ z => z) ?_ | (refine kO 3 rfl ?_; refine rG (fun _ z => z) ?_) | (refine kO 4 rfl ?_; refine rG (fun _ z => z) ?_) | (refine kO 7 rfl ?_; refine rG (fun _ z => ⟨_, g, z⟩) ?_) | refine oN ?_ | refine aS ?_ | refine aR ?_ | refine aT ?_ | refine aC rfl ?_ | refine bT ?_); (try conv => whnf))
    (rfl)
  · rw [decide_eq_false h] at g
    rw [if_neg h]
    refine Sat_of_awp (fn := f96) cx_ok (by kernel_rfl) (by kernel_rfl) rfl (by kernel_rfl) (Nat.le_of_ble_eq_true rfl) ?_
    repeat ((first | refine oP rfl ?_ | refine rP rfl (fun _ z => z) ?_ | (refine kO 3 rfl ?_; refine rG (fun _ z => z) ?_) | (refine kO 4 rfl ?_; refine rG (fun _ z => z) ?_) | (refine kO 7 rfl ?_; refine rG (fun _ z => ⟨_, g, z⟩) ?_) | refine oN ?_ | refine aS ?_ | refine aR ?_ | refine aK ?_ | refine aT ?_ | refine aC rfl ?_ | refine bF ?_); (try conv => whnf))
    (rfl)
theorem greater_sat {x y : Qn} (hx : bdQ x) (hy : bdQ y) : Sat cx.P cx.gl 95 [qv x, qv y] (.one (qv (mxQ x y))) := by
  have g := qless_sat hx hy
  unfold mxQ
  by_cases h : ltQ x y
  · rw [decide_eq_true h] at g
    rw [if_pos h]
    refine Sat_of_awp (fn := f95) cx_ok (by kernel_rfl) (by kernel_rfl) rfl (by kernel_rfl) (Nat.le_of_ble_eq_true rfl) ?_
    repeat ((first | refine oP rfl ?_ | refine rP rfl (fun _ z => z) ?_ | (refine kO 3 rfl ?_; refine rG (fun _ z => z) ?_) | (refine kO 4 rfl ?_; refine rG (fun _ z => z) ?_) | (refine kO 7 rfl ?_; refine rG (fun _ z => ⟨_, g, z⟩) ?_) | refine oN ?_ | refine aS ?_ | refine aR ?_ | refine aT ?_ | refine aC rfl ?_ | refine bT ?_); (try conv => whnf))
    (rfl)
  · rw [decide_eq_false h] at g
    rw [if_neg h]
    refine Sat_of_awp (fn := f95) cx_ok (by kernel_rfl) (by kernel_rfl) rfl (by kernel_rfl) (Nat.le_of_ble_eq_true rfl) ?_
    repeat ((first | refine oP rfl ?_ | refine rP rfl (fun _ z => z) ?_ | (refine kO 3 rfl ?_; refine rG (fun _ z => z) ?_) | (refine kO 4 rfl ?_; refine rG (fun _ z => z) ?_) | (refine kO 7 rfl ?_; refine rG (fun _ z => ⟨_, g, z⟩) ?_) | refine oN ?_ | refine aS ?_ | refine aR ?_ | refine aK ?_ | refine aT ?_ | refine aC rfl ?_ | refine bF ?_); (try conv => whnf))
    (rfl)
theorem isEmpty_sat {s : Iv} (h : bdS s) : Sat cx.P cx.gl 40 [(true, iv s)] (.one (Bo (decide (empS s)))) := by
  have g := qless_sat h.2 h.1
  refine Sat_of_awp (fn := f40) cx_ok (by kernel_rfl) (by kernel_rfl) rfl (by kernel_rfl) (Nat.le_of_ble_eq_true rfl) ?_
  repeat ((first | refine oP rfl ?_ | refine rP rfl (fun _ z => z) ?_ | (refine kO 3 rfl ?_; refine rG (fun _ z => z) ?_) | (refine kO 7 rfl ?_; refine rG (fun _ z => ⟨_, g, z⟩) ?_) | refine oN ?_ | refine aS ?_ | refine aR ?_ | refine aT ?_); (try conv => whnf))
  (rfl)
theorem mx_bd {x y : Qn} (hx : bdQ x) (hy : bdQ y) : bdQ (mxQ x y) := by unfold mxQ; split <;> assumption
theorem mn_bd {x y : Qn} (hx : bdQ x) (hy : bdQ y) : bdQ (mnQ x y) := by unfold mnQ; split <;> assumption
theorem low_bdQ {n d : Int} (hn : -5000 ≤ n ∧ n ≤ 5000) (hd : 1 ≤ d ∧ d ≤ 5000) : bdQ (lowQ n d) := by
  have h1 := low_abs n d
  have h2 := den_le (n := n) (d := d) (by omega)
  have h3 := lowDen_pos (n := n) (d := d) (by omega)
  show (-5000 ≤ lowNum n d ∧ lowNum n d ≤ 5000) ∧ 1 ≤ lowDen n d ∧ lowDen n d ≤ 5000
  omega
abbrev b5 (n : Int) : Prop := -5000 ≤ n ∧ n ≤ 5000
theorem am_bd {s : Iv} {n m : Int} (h : bdS s) (hn : b5 n) (hm : b5 m) : bdS (amS s n m) := by
  unfold amS
  split
  · exact ⟨h.1, mn_bd h.2 (low_bdQ hm (by omega))⟩
  · split
    · exact ⟨mx_bd h.1 (low_bdQ (by omega) (by omega)), h.2⟩
    · split
      · unfold nevS; exact ⟨⟨by decide, by decide⟩, by decide, by decide⟩
      · exact h
theorem and_bd {s o : Iv} (h : bdS s) (k : bdS o) : bdS (andS s o) := ⟨mx_bd h.1 k.1, mn_bd h.2 k.2⟩
theorem and_sat {s o : Iv} (h : bdS s) (k : bdS o) : Sat cx.P cx.gl 65 [(true, iv s), (true, iv o)] (.one (true, iv (andS s o))) := by
  have g1 := greater_sat h.1 k.1
  have g2 := smaller_sat h.2 k.2
  refine Sat_of_awp (fn := f65) cx_ok (by kernel_rfl) (by kernel_rfl) rfl (by kernel_rfl) (Nat.le_of_ble_eq_true rfl) ?_
  repeat ((first | refine oP rfl ?_ | refine rP rfl (fun _ z => z) ?_ | (refine kO 3 rfl ?_; refine rG (fun _ z => z) ?_) | (refine kO 4 rfl ?_; refine rG (fun _ z => z) ?_) | (refine kO 7 rfl ?_; first | refine rG (fun _ z => ⟨_, g1, z⟩) ?_ | refine rG (fun _ z => ⟨_, g2, z⟩) ?_) | refine oN ?_ | refine aS ?_ | refine aR ?_ | refine aT ?_ | refine dI (by kernel_rfl) ?_); (try conv => whnf))
  (rfl)
theorem qlow_sat {n d : Int} (hn : b5 n) (hd : 1 ≤ d ∧ d ≤ 5000) : Sat cx.P cx.gl 50 [I n, I d] (.one (qv (lowQ n d))) := wLowest_sat n d ⟨by omega, by omega⟩ (by omega)
theorem atMost_sat {s : Iv} {n m : Int} (h : bdS s) (hn : b5 n) (hm : b5 m) : Sat cx.P cx.gl 97 [(true, iv s), I n, I m] (.one (true, iv (amS s n m))) := by
  unfold amS
  by_cases h1 : n > 0
  · rw [if_pos h1]
    have g1 := qlow_sat (n := m) (d := n) hm (by omega)
    have g2 := smaller_sat h.2 (low_bdQ (n := m) (d := n) hm (by omega))
    refine Sat_of_awp (fn := f97) cx_ok (by kernel_rfl) (by kernel_rfl) rfl (by kernel_rfl) (Nat.le_of_ble_eq_true rfl) ?_
    repeat ((first | refine oP rfl ?_ | refine rP rfl (fun _ z => z) ?_ | (refine kO 1 rfl ?_; refine rG (fun _ z => z) ?_) | (refine kO 3 rfl ?_; refine rG (fun _ z => z) ?_) | (refine kO 4 rfl ?_; refine rG (fun _ z => z) ?_) | (refine kO 7 rfl ?_; first | refine rG (fun _ z => ⟨_, g1, z⟩) ?_ | refine rG (fun _ z => ⟨_, g2, z⟩) ?_) | refine oN ?_ | refine aS ?_ | refine aR ?_ | refine aB ?_ | refine aT ?_ | refine aC rfl ?_ | refine bPt (by omega) ?_ | refine dI (by kernel_rfl) ?_); (try conv => whnf))
    (rfl)
  · rw [if_neg h1]
    by_cases h2 : n < 0
    · rw [if_pos h2]
      have g1 := qlow_sat (n := -m) (d := -n) (by omega) (by omega)
      have g2 := greater_sat h.1 (low_bdQ (n := -m) (d := -n) (by omega) (by omega))
      refine Sat_of_awp (fn := f97) cx_ok (by kernel_rfl) (by kernel_rfl) rfl (by kernel_rfl) (Nat.le_of_ble_eq_true rfl) ?_
      repeat ((first | refine oP rfl ?_ | refine rP rfl (fun _ z => z) ?_ | (refine kO 1 rfl ?_; refine rG (fun _ z => z) ?_) | (refine kO 2 rfl ?_; refine rNeg rfl rfl (by omega) ?_) | (refine kO 3 rfl ?_; refine rG (fun _ z => z) ?_) | (refine kO 4 rfl ?_; refine rG (fun _ z => z) ?_) | (refine kO 7 rfl ?_; first | refine rG (fun _ z => ⟨_, g1, z⟩) ?_ | refine rG (fun _ z => ⟨_, g2, z⟩) ?_) | refine oN ?_ | refine aS ?_ | refine aR ?_ | refine aB ?_ | refine aT ?_ | refine aC rfl ?_ | refine bPt (by omega) ?_ | refine bPf (by omega) ?_ | refine dI (by kernel_rfl) ?_); (try conv => whnf))
      (rfl)
    · rw [if_neg h2]
      by_cases h3 : m < 0
      · rw [if_pos h3]
        refine Sat_of_awp (fn := f97) cx_ok (by kernel_rfl) (by kernel_rfl) rfl (by kernel_rfl) (Nat.le_of_ble_eq_true rfl) ?_
        repeat ((first | refine oP rfl ?_ | refine rP rfl (fun _ z => z) ?_ | (refine kO 1 rfl ?_; refine rG (fun _ z => z) ?_) | (refine kO 3 rfl ?_; refine rG (fun _ z => z) ?_) | (refine kO 4 rfl ?_; refine rG (fun _ z => z) ?_) | refine oN ?_ | refine aS ?_ | refine aR ?_ | refine aB ?_ | refine aT ?_ | refine aC rfl ?_ | refine bPt (by omega) ?_ | refine bPf (by omega) ?_); (try conv => whnf))
        (rfl)
      · rw [if_neg h3]
        refine Sat_of_awp (fn := f97) cx_ok (by kernel_rfl) (by kernel_rfl) rfl (by kernel_rfl) (Nat.le_of_ble_eq_true rfl) ?_
        repeat ((first | refine oP rfl ?_ | refine rP rfl (fun _ z => z) ?_ | (refine kO 1 rfl ?_; refine rG (fun _ z => z) ?_) | (refine kO 3 rfl ?_; refine rG (fun _ z => z) ?_) | (refine kO 4 rfl ?_; refine rG (fun _ z => z) ?_) | refine oN ?_ | refine aS ?_ | refine aR ?_ | refine aK ?_ | refine aB ?_ | refine aT ?_ | refine aC rfl ?_ | refine bPf (by omega) ?_); (try conv => whnf))
        (rfl)
/-- Two records with factors and an error. -/
abbrev Pr (F : Iv) (e : Int) (a b : List Int) : SV := (true, [J F.1.1, J F.1.2, J F.2.1, J F.2.2, J e, .ints a, .ints b])
abbrev smpl (l : List Int) : Prop := AllIn l (-4096) 4096
theorem at_bd {F : Iv} {e x y : Int} (h : bdS F) (he : 0 ≤ e ∧ e ≤ 100) (hx : -4096 ≤ x ∧ x ≤ 4096) (hy : -4096 ≤ y ∧ y ≤ 4096) : bdS (atS F e x y) := am_bd (am_bd h (by omega) (by omega)) (by omega) (by omega)
theorem at_sat {F : Iv} {e : Int} {a b : List Int} {i : Int} (h : bdS F) (he : 0 ≤ e ∧ e ≤ 100) (hl : a.length = b.length) (ha : smpl a) (hb : smpl b) (hi : 0 ≤ i ∧ i < a.length) : Sat cx.P cx.gl 66 [Pr F e a b, I i] (.one (true, iv (atS F e (a.getD i.toNat 0) (b.getD i.toNat 0)))) := by
  have hx := getD_in ha (show i.toNat < a.length by omega)
  have hy := getD_in hb (show i.toNat < b.length by omega)
  have g1 := atMost_sat (n := a.getD i.toNat 0 - e) (m := b.getD i.toNat 0 + e) h (by omega) (by omega)
  have g2 := atMost_sat (n := -a.getD i.toNat 0 - e) (m := e - b.getD i.toNat 0) (am_bd (n := a.getD i.toNat 0 - e) (m := b.getD i.toNat 0 + e) h (by omega) (by omega)) (by omega) (by omega)
  unfold atS
  refine Sat_of_awp (fn := f66) cx_ok (by kernel_rfl) (by kernel_rfl) rfl (by kernel_rfl) (Nat.le_of_ble_eq_true rfl) ?_
  repeat ((first | refine oP rfl ?_ | refine rP rfl (fun _ z => z) ?_ | (refine kO 1 rfl ?_; first | refine rAdd rfl rfl rfl (by omega) ?_ | refine rSub rfl rfl rfl (by omega) ?_) | (refine kO 2 rfl ?_; refine rNeg rfl rfl (by omega) ?_) | (refine kO 3 rfl ?_; first | refine rLdr rfl rfl rfl rfl rfl ?_ | refine rLdb rfl rfl rfl rfl rfl rfl rfl ?_ | refine rG (fun _ z => z) ?_) | (refine kO 4 rfl ?_; refine rG (fun _ z => z) ?_) | (refine kO 5 rfl ?_; refine rIdx rfl rfl rfl rfl rfl rfl rfl (by omega) ?_) | (refine kO 7 rfl ?_; first | refine rG (fun _ z => ⟨_, g1, z⟩) ?_ | refine rG (fun _ z => ⟨_, g2, z⟩) ?_) | refine oN ?_ | refine aS ?_ | refine aR ?_ | refine aT ?_ | refine dI (by kernel_rfl) ?_); (try conv => whnf))
  (rfl)
def PI (a b ix : List Int) : List (Int × Int) := ix.map fun w => (a.getD w.toNat 0, b.getD w.toNat 0)
def rng (n : Nat) : List Int := (List.range n).map fun (i : Nat) => (i : Int)
theorem rng_succ (n : Nat) : rng (n + 1) = rng n ++ [(n : Int)] := by simp [rng, List.range_succ]
theorem rng_len (n : Nat) : (rng n).length = n := by simp [rng]
theorem allS_snoc (F : Iv) (e : Int) (p : Int × Int) : ∀ (l : List (Int × Int)) (s : Iv), allS F e (l ++ [p]) s = andS (allS F e l s) (atS F e p.1 p.2)
  | [], _ => rfl
  | _ :: l, _ => allS_snoc F e p l _
theorem PI_snoc (a b ix : List Int) (w : Int) : PI a b (ix ++ [w]) = PI a b ix ++ [(a.getD w.toNat 0, b.getD w.toNat 0)] := by simp [PI]
theorem take_snoc {l : List Int} {i : Nat} (h : i < l.length) : l.take (i + 1) = l.take i ++ [l.getD i 0] := by
  rw [List.take_succ_eq_append_getElem h]; simp [List.getD_eq_getElem?_getD, h]
theorem allS_bd {F : Iv} {e : Int} (h : bdS F) (he : 0 ≤ e ∧ e ≤ 100) : ∀ (l : List (Int × Int)) (s : Iv), bdS s → (∀ p ∈ l, (-4096 ≤ p.1 ∧ p.1 ≤ 4096) ∧ -4096 ≤ p.2 ∧ p.2 ≤ 4096) → bdS (allS F e l s)
  | [], _, hs, _ => hs
  | p :: l, _, hs, hp => allS_bd h he l _ (and_bd hs (at_bd h he (hp p (List.mem_cons_self ..)).1 (hp p (List.mem_cons_self ..)).2)) fun p hp' => hp p (List.mem_cons_of_mem _ hp')
theorem PI_mem {a b ix : List Int} (ha : smpl a) (hb : smpl b) (hl : a.length = b.length) (hi : ∀ w ∈ ix, 0 ≤ w ∧ w < a.length) : ∀ p ∈ PI a b ix, (-4096 ≤ p.1 ∧ p.1 ≤ 4096) ∧ -4096 ≤ p.2 ∧ p.2 ≤ 4096 := by
  intro p hp
  obtain ⟨w, hw, rfl⟩ := List.mem_map.1 hp
  have := hi w hw
  exact ⟨getD_in ha (by omega), getD_in hb (by omega)⟩
theorem rng_in (n : Nat) : ∀ w ∈ rng n, 0 ≤ w ∧ w < n := by
  intro w hw
  obtain ⟨i, hi, rfl⟩ := List.mem_map.1 hw
  have := List.mem_range.1 hi
  omega
theorem all_sat {F : Iv} {e : Int} {a b : List Int} (h : bdS F) (he : 0 ≤ e ∧ e ≤ 100) (hl : a.length = b.length) (hn : a.length ≤ 64) (ha : smpl a) (hb : smpl b) : Sat cx.P cx.gl 39 [Pr F e a b] (.one (true, iv (allS F e (PI a b (rng a.length)) F))) := by
  refine Sat_of_awp (fn := f39) cx_ok (by kernel_rfl) (by kernel_rfl) rfl (by kernel_rfl) (Nat.le_of_ble_eq_true rfl) ?_
  repeat ((first | refine oP rfl ?_ | refine rP rfl (fun _ z => z) ?_ | (refine kO 3 rfl ?_; first | refine rLdb rfl rfl rfl rfl rfl rfl rfl ?_ | refine rG (fun _ z => z) ?_) | (refine kO 4 rfl ?_; refine rG (fun _ z => z) ?_) | (refine kO 6 rfl ?_; refine rLen rfl rfl rfl rfl rfl rfl ?_) | refine oN ?_ | refine aS ?_ | refine aR ?_ | refine aB ?_ | refine aL ?_); (try conv => whnf))
  refine loop_ind (ι := Nat) (fun i => i ≤ a.length) (fun i => a.length - i) (fun i => ⟨[(1, pP 0), (2, pP 1), (3, pP 2), (9, vI a.length), (10, vI i)], [(0, some (.box 88 [.st (J F.1.1), .st (J F.1.2), .st (J F.2.1), .st (J F.2.2), .st (J e), .st (.ints a), .st (.ints b)])), (1, some (.box 86 [.st (J 0), .st (J 0), .st (J 0), .st (J 0)])),
    (2, some (.box 86 ((iv (allS F e (PI a b (rng i)) F)).map .st)))], 3⟩) 0 (canon_auto (by kernel_rfl)) (Nat.zero_le _) ?_
  intro i hi
  have hB := allS_bd h he (PI a b (rng i)) F h (PI_mem ha hb hl (fun w hw => by have := rng_in i w hw; omega))
  by_cases hlt : i < a.length
  · have g1 := at_sat (i := (i : Int)) h he hl ha hb (by omega)
    have g2 := and_sat hB (at_bd h he (getD_in ha (show (i : Int).toNat < a.length by omega)) (getD_in hb (show (i : Int).toNat < b.length by omega)))
    have e1 : allS F e (PI a b (rng (i + 1))) F = andS (allS F e (PI a b (rng i)) F) (atS F e (a.getD (i : Int).toNat 0) (b.getD (i : Int).toNat 0)) := by
      rw [rng_succ, PI_snoc, allS_snoc]
    generalize allS F e (PI a b (rng i)) F = S at *
    repeat ((first | refine oP rfl ?_ | refine rP rfl (fun _ z => z) ?_ | (refine kO 1 rfl ?_; first | refine rAdd rfl rfl rfl (by omega) ?_ | refine rG (fun _ z => z) ?_) | (refine kO 3 rfl ?_; refine rG (fun _ z => z) ?_) | (refine kO 4 rfl ?_; refine rG (fun _ z => z) ?_) | (refine kO 7 rfl ?_; first | refine rG (fun _ z => ⟨_, g1, z⟩) ?_ | refine rG (fun _ z => ⟨_, g2, z⟩) ?_) | refine oN ?_ | refine aS ?_ | refine aR ?_ | refine aK ?_ | refine aB ?_ | refine aC rfl ?_ | refine bPt (by omega) ?_ | refine dI (by kernel_rfl) ?_); (try conv => whnf))
    exact ⟨i + 1, hlt, by omega, canon_auto (by rw [e1]; kernel_rfl)⟩
  · obtain rfl : i = a.length := by omega
    repeat ((first | refine oP rfl ?_ | (refine kO 1 rfl ?_; refine rG (fun _ z => z) ?_) | (refine kO 3 rfl ?_; refine rG (fun _ z => z) ?_) | (refine kO 4 rfl ?_; refine rG (fun _ z => z) ?_) | refine oN ?_ | refine aS ?_ | refine aR ?_ | refine aX ?_ | refine aT ?_ | refine aC rfl ?_ | refine bPf (by omega) ?_); (try conv => whnf))
    (rfl)
theorem by_sat {F : Iv} {e : Int} {a b ix : List Int} (h : bdS F) (he : 0 ≤ e ∧ e ≤ 100) (hl : a.length = b.length) (hx : ix.length ≤ 70) (ha : smpl a) (hb : smpl b) (hi : ∀ w ∈ ix, 0 ≤ w ∧ w < a.length) : Sat cx.P cx.gl 44 [Pr F e a b, L ix] (.one (true, iv (allS F e (PI a b ix) F))) := by
  refine Sat_of_awp (fn := f44) cx_ok (by kernel_rfl) (by kernel_rfl) rfl (by kernel_rfl) (Nat.le_of_ble_eq_true rfl) ?_
  repeat ((first | refine oP rfl ?_ | refine rP rfl (fun _ z => z) ?_ | (refine kO 3 rfl ?_; refine rG (fun _ z => z) ?_) | (refine kO 4 rfl ?_; refine rG (fun _ z => z) ?_) | (refine kO 6 rfl ?_; refine rLen rfl rfl rfl rfl rfl rfl ?_) | refine oN ?_ | refine aS ?_ | refine aR ?_ | refine aB ?_ | refine aL ?_); (try conv => whnf))
  refine loop_ind (ι := Nat) (fun i => i ≤ ix.length) (fun i => ix.length - i) (fun i => ⟨[(2, pP 0), (4, pP 1), (5, pP 2), (10, vL ix), (11, vI ix.length), (12, vI i)], [(0, some (.box 88 [.st (J F.1.1), .st (J F.1.2), .st (J F.2.1), .st (J F.2.2), .st (J e), .st (.ints a), .st (.ints b)])), (1, some (.box 86 [.st (J 0), .st (J 0), .st (J 0), .st (J 0)])),
    (2, some (.box 86 ((iv (allS F e (PI a b (ix.take i)) F)).map .st)))], 3⟩) 0 (canon_auto (by kernel_rfl)) (Nat.zero_le _) ?_
  intro i hi'
  have hB := allS_bd h he (PI a b (ix.take i)) F h (PI_mem ha hb hl (fun w hw => hi w (List.mem_of_mem_take hw)))
  by_cases hlt : i < ix.length
  · have hw := hi _ (getD_mem (d := 0) hlt)
    have g1 := at_sat (i := ix.getD i 0) h he hl ha hb hw
    have g2 := and_sat hB (at_bd h he (getD_in ha (show (ix.getD i 0).toNat < a.length by omega)) (getD_in hb (show (ix.getD i 0).toNat < b.length by omega)))
    have e1 : allS F e (PI a b (ix.take (i + 1))) F = andS (allS F e (PI a b (ix.take i)) F) (atS F e (a.getD (ix.getD i 0).toNat 0) (b.getD (ix.getD i 0).toNat 0)) := by
      rw [take_snoc hlt, PI_snoc, allS_snoc]
    generalize allS F e (PI a b (ix.take i)) F = S at *
    repeat ((first | refine oP rfl ?_ | refine rP rfl (fun _ z => z) ?_ | (refine kO 1 rfl ?_; first | refine rAdd rfl rfl rfl (by omega) ?_ | refine rG (fun _ z => z) ?_) | (refine kO 3 rfl ?_; first | refine rLdr rfl rfl rfl rfl rfl ?_ | refine rG (fun _ z => z) ?_) | (refine kO 4 rfl ?_; refine rG (fun _ z => z) ?_) | (refine kO 5 rfl ?_; refine rIdN rfl rfl rfl rfl rfl rfl rfl (by omega) ?_) | (refine kO 7 rfl ?_; first | refine rG (fun _ z => ⟨_, g1, z⟩) ?_ | refine rG (fun _ z => ⟨_, g2, z⟩) ?_) | refine oN ?_ | refine aS ?_ | refine aR ?_ | refine aK ?_ | refine aB ?_ | refine aC rfl ?_ | refine bPt (by omega) ?_ | refine dI (by kernel_rfl) ?_); (try conv => whnf))
    exact ⟨i + 1, hlt, by omega, canon_auto (by rw [e1]; kernel_rfl)⟩
  · obtain rfl : i = ix.length := by omega
    repeat ((first | refine oP rfl ?_ | (refine kO 1 rfl ?_; refine rG (fun _ z => z) ?_) | (refine kO 3 rfl ?_; refine rG (fun _ z => z) ?_) | (refine kO 4 rfl ?_; refine rG (fun _ z => z) ?_) | refine oN ?_ | refine aS ?_ | refine aR ?_ | refine aX ?_ | refine aT ?_ | refine aC rfl ?_ | refine bPf (by omega) ?_); (try conv => whnf))
    rw [List.take_length]; (rfl)
end Go.Proofs.Tryz

namespace Go.Proofs.Tryz
open Go.Fw Go.IntWalk Go.Plain
set_option maxRecDepth 100000
set_option maxHeartbeats 8000000
/-- The factors of rules. -/
abbrev sF (q : Sp) : Iv := ((q.1, q.2.1), (q.2.2.1, q.2.2.2))
theorem sF_bd {q : Sp} (h : facErr q = 0) : bdS (sF q) := by
  obtain ⟨⟨h1, h2, h3, h4⟩, _⟩ := facErr_zero h
  exact ⟨⟨⟨show -5000 ≤ q.1 by omega, show q.1 ≤ 5000 by omega⟩, show 1 ≤ q.2.1 by omega, show q.2.1 ≤ 5000 by omega⟩, ⟨show -5000 ≤ q.2.2.1 by omega, show q.2.2.1 ≤ 5000 by omega⟩, show 1 ≤ q.2.2.2 by omega, show q.2.2.2 ≤ 5000 by omega⟩
theorem sF_ne {q : Sp} (h : facErr q = 0) : ¬ empS (sF q) := (facErr_zero h).2.2.2
def pairErr (e : Int) (q : Sp) (ch : List Sp) (sa : Int) (la : List Int) (sb : Int) (lb : List Int) : Int := if rulesErr e q ch ≠ 0 then rulesErr e q ch else if recErr sa la ≠ 0 then recErr sa la else if recErr sb lb ≠ 0 then recErr sb lb else if sa = sb ∧ (la.length : Int) = lb.length then 0 else 10
theorem pairErr_zero {e : Int} {q : Sp} {ch : List Sp} {sa : Int} {la : List Int} {sb : Int} {lb : List Int} (h : pairErr e q ch sa la sb lb = 0) : rulesErr e q ch = 0 ∧ recErr sa la = 0 ∧ recErr sb lb = 0 ∧ sa = sb ∧ la.length = lb.length := by
  unfold pairErr at h
  repeat' split at h
  all_goals omega
/-- All facts of a valid pair. -/
theorem pair_facts {e : Int} {q : Sp} {ch : List Sp} {sa : Int} {la : List Int} {sb : Int} {lb : List Int} (h : pairErr e q ch sa la sb lb = 0) : (0 ≤ e ∧ e ≤ 100) ∧ bdS (sF q) ∧ ¬ empS (sF q) ∧ (3 ≤ la.length ∧ la.length ≤ 64) ∧ la.length = lb.length ∧ smpl la ∧ smpl lb := by
  obtain ⟨h1, h2, h3, _, h5⟩ := pairErr_zero h
  obtain ⟨g1, g2, _⟩ := rulesErr_zero h1
  obtain ⟨_, k1, k2, k3⟩ := recErr_zero h2
  obtain ⟨_, _, _, m3⟩ := recErr_zero h3
  exact ⟨g1, sF_bd g2, sF_ne g2, ⟨k1, k2⟩, h5, k3, m3⟩
/-- The factors that all samples permit. -/
def SS (e : Int) (q : Sp) (la lb : List Int) : Iv := allS (sF q) e (PI la lb (rng la.length)) (sF q)
theorem SS_bd {e : Int} {q : Sp} {la lb : List Int} (h : bdS (sF q)) (he : 0 ≤ e ∧ e ≤ 100) (hl : la.length = lb.length) (ha : smpl la) (hb : smpl lb) : bdS (SS e q la lb) :=
  allS_bd h he _ _ h (PI_mem ha hb hl (fun w hw => by have := rng_in _ w hw; omega))
theorem openPair_sat (e : Int) (q : Sp) (ch : List Sp) (sa : Int) (la : List Int) (sb : Int) (lb : List Int) (hq : SpI q) (hch : ∀ s ∈ ch, SpI s) (hc : ch.length ≤ 4294967296) (hla : la.length ≤ maxLen) (hlb : lb.length ≤ maxLen) :
    Sat cx.P cx.gl 38 [Ru e q ch, Rc sa la, Rc sb lb] (.tup [Pr (sF q) e la lb, I (pairErr e q ch sa la sb lb)]) := by
  have s1 := checkRules_sat e q ch hq hch hc
  have s2 := checkRecord_sat sa la hla
  have s3 := checkRecord_sat sb lb hlb
  have f := fs4 (rulesErr e q ch) (recErr sa la) (recErr sb lb) (if sa = sb ∧ (la.length : Int) = lb.length then 0 else 10)
  have f' : fs [rulesErr e q ch, recErr sa la, recErr sb lb, if sa = sb ∧ (la.length : Int) = lb.length then 0 else 10] = pairErr e q ch sa la sb lb := by
    rw [f]; unfold pairErr; (repeat' split) <;> omega
  rw [← f']
  clear f f'
  by_cases h1 : sa = sb
  · by_cases h2 : (la.length : Int) = lb.length
    · rw [if_pos ⟨h1, h2⟩]
      refine Sat_of_awp (fn := f38) cx_ok (by kernel_rfl) (by kernel_rfl) rfl (by kernel_rfl) (Nat.le_of_ble_eq_true rfl) ?_
      repeat ((first | refine oP rfl ?_ | refine rP rfl (fun _ z => z) ?_ | (refine kO 1 rfl ?_; refine rG (fun _ z => z) ?_) | (refine kO 3 rfl ?_; first | refine rLdb rfl rfl rfl rfl rfl rfl rfl ?_ | refine rG (fun _ z => z) ?_) | (refine kO 4 rfl ?_; refine rG (fun _ z => z) ?_) | (refine kO 7 rfl ?_; first | refine rG (fun _ z => ⟨_, s1, z⟩) ?_ | refine rG (fun _ z => ⟨_, s2, z⟩) ?_ | refine rG (fun _ z => ⟨_, s3, z⟩) ?_ | refine rG (fun _ z => ⟨_, wUnless_yes (show _ by simp [h1, h2]) _, z⟩) ?_ | refine rG (fun _ z => ⟨_, wFirst_fs _ (Nat.le_of_ble_eq_true rfl), z⟩) ?_) | (refine kO 6 rfl ?_; refine rLen rfl rfl rfl rfl rfl rfl ?_) | refine oN ?_ | refine aS ?_ | refine aR ?_ | refine aT ?_ | refine oY rfl rfl rfl ?_ | refine oIt rfl rfl rfl (by omega) ?_ | refine dI (by kernel_rfl) ?_); (try conv => whnf))
      (rfl)
    · rw [if_neg (fun h => h2 h.2)]
      refine Sat_of_awp (fn := f38) cx_ok (by kernel_rfl) (by kernel_rfl) rfl (by kernel_rfl) (Nat.le_of_ble_eq_true rfl) ?_
      repeat ((first | refine oP rfl ?_ | refine rP rfl (fun _ z => z) ?_ | (refine kO 1 rfl ?_; refine rG (fun _ z => z) ?_) | (refine kO 3 rfl ?_; first | refine rLdb rfl rfl rfl rfl rfl rfl rfl ?_ | refine rG (fun _ z => z) ?_) | (refine kO 4 rfl ?_; refine rG (fun _ z => z) ?_) | (refine kO 7 rfl ?_; first | refine rG (fun _ z => ⟨_, s1, z⟩) ?_ | refine rG (fun _ z => ⟨_, s2, z⟩) ?_ | refine rG (fun _ z => ⟨_, s3, z⟩) ?_ | refine rG (fun _ z => ⟨_, wUnless_no (show ¬ _ by simp [h1, h2]) _, z⟩) ?_ | refine rG (fun _ z => ⟨_, wFirst_fs _ (Nat.le_of_ble_eq_true rfl), z⟩) ?_) | (refine kO 6 rfl ?_; refine rLen rfl rfl rfl rfl rfl rfl ?_) | refine oN ?_ | refine aS ?_ | refine aR ?_ | refine aT ?_ | refine oY rfl rfl rfl ?_ | refine oIt rfl rfl rfl (by omega) ?_ | refine dI (by kernel_rfl) ?_); (try conv => whnf))
      (rfl)
  · rw [if_neg (fun h => h1 h.1)]
    refine Sat_of_awp (fn := f38) cx_ok (by kernel_rfl) (by kernel_rfl) rfl (by kernel_rfl) (Nat.le_of_ble_eq_true rfl) ?_
    repeat ((first | refine oP rfl ?_ | refine rP rfl (fun _ z => z) ?_ | (refine kO 1 rfl ?_; refine rG (fun _ z => z) ?_) | (refine kO 3 rfl ?_; first | refine rLdb rfl rfl rfl rfl rfl rfl rfl ?_ | refine rG (fun _ z => z) ?_) | (refine kO 4 rfl ?_; refine rG (fun _ z => z) ?_) | (refine kO 7 rfl ?_; first | refine rG (fun _ z => ⟨_, s1, z⟩) ?_ | refine rG (fun _ z => ⟨_, s2, z⟩) ?_ | refine rG (fun _ z => ⟨_, s3, z⟩) ?_ | refine rG (fun _ z => ⟨_, wUnless_no (show ¬ _ by simp [h1]) _, z⟩) ?_ | refine rG (fun _ z => ⟨_, wFirst_fs _ (Nat.le_of_ble_eq_true rfl), z⟩) ?_) | refine oN ?_ | refine aS ?_ | refine aR ?_ | refine aT ?_ | refine oZ rfl rfl rfl ?_ | refine oIf rfl rfl rfl (by omega) ?_ | refine dI (by kernel_rfl) ?_); (try conv => whnf))
    (rfl)
/-- What FactorsOf returns. -/
def facR (z : Int) (s : Iv) : List SV := if z ≠ 0 then [F4 0 0 0 0, I z] else if empS s then [F4 0 0 0 0, I 13] else [(true, iv s), I 0]
def difR (z e : Int) (s : Iv) : List SV := if z ≠ 0 then [I 0, I z] else if empS s then [I 2, I 0] else if e = 0 then [I 0, I 0] else [I 1, I 0]
theorem differenceOf_sat (e : Int) (q : Sp) (ch : List Sp) (sa : Int) (la : List Int) (sb : Int) (lb : List Int) (hq : SpI q) (hch : ∀ s ∈ ch, SpI s) (hc : ch.length ≤ 4294967296) (hla : la.length ≤ maxLen) (hlb : lb.length ≤ maxLen) :
    Sat cx.P cx.gl 18 [Ru e q ch, Rc sa la, Rc sb lb] (.tup (difR (pairErr e q ch sa la sb lb) e (SS e q la lb))) := by
  have s1 := openPair_sat e q ch sa la sb lb hq hch hc hla hlb
  unfold difR
  by_cases h : pairErr e q ch sa la sb lb = 0
  · rw [h] at s1 ⊢
    rw [if_neg (by omega)]
    obtain ⟨he, hF, _, hn, hl, ha, hb⟩ := pair_facts h
    have s2 := all_sat hF he hl (by omega) ha hb
    have s3 := isEmpty_sat (SS_bd hF he hl ha hb)
    rw [show allS (sF q) e (PI la lb (rng la.length)) (sF q) = SS e q la lb from rfl] at s2
    generalize SS e q la lb = S at *
    by_cases hE : empS S
    · rw [if_pos hE]
      rw [decide_eq_true hE] at s3
      refine Sat_of_awp (fn := f18) cx_ok (by kernel_rfl) (by kernel_rfl) rfl (by kernel_rfl) (Nat.le_of_ble_eq_true rfl) ?_
      repeat ((first | refine oP rfl ?_ | refine rP rfl (fun _ z => z) ?_ | (refine kO 1 rfl ?_; refine rG (fun _ z => z) ?_) | (refine kO 3 rfl ?_; refine rG (fun _ z => z) ?_) | (refine kO 4 rfl ?_; refine rG (fun _ z => z) ?_) | (refine kO 7 rfl ?_; first | refine rG (fun _ z => ⟨_, s1, z⟩) ?_ | refine rG (fun _ z => ⟨_, s2, z⟩) ?_ | refine rG (fun _ z => ⟨_, s3, z⟩) ?_) | refine oN ?_ | refine aS ?_ | refine aR ?_ | refine aB ?_ | refine aT ?_ | refine aC rfl ?_ | refine bT ?_ | refine bF ?_); (try conv => whnf))
      (done)
    · rw [if_neg hE]
      rw [decide_eq_false hE] at s3
      by_cases h0 : e = 0
      · rw [if_pos h0]
        refine Sat_of_awp (fn := f18) cx_ok (by kernel_rfl) (by kernel_rfl) rfl (by kernel_rfl) (Nat.le_of_ble_eq_true rfl) ?_
        repeat ((first | refine oP rfl ?_ | refine rP rfl (fun _ z => z) ?_ | (refine kO 1 rfl ?_; refine rG (fun _ z => z) ?_) | (refine kO 3 rfl ?_; first | refine rLdb rfl rfl rfl rfl rfl rfl rfl ?_ | refine rG (fun _ z => z) ?_) | (refine kO 4 rfl ?_; refine rG (fun _ z => z) ?_) | (refine kO 7 rfl ?_; first | refine rG (fun _ z => ⟨_, s1, z⟩) ?_ | refine rG (fun _ z => ⟨_, s2, z⟩) ?_ | refine rG (fun _ z => ⟨_, s3, z⟩) ?_) | refine oN ?_ | refine aS ?_ | refine aR ?_ | refine aB ?_ | refine aT ?_ | refine aC rfl ?_ | refine bF ?_ | refine bPt (by omega) ?_); (try conv => whnf))
        (done)
      · rw [if_neg h0]
        refine Sat_of_awp (fn := f18) cx_ok (by kernel_rfl) (by kernel_rfl) rfl (by kernel_rfl) (Nat.le_of_ble_eq_true rfl) ?_
        repeat ((first | refine oP rfl ?_ | refine rP rfl (fun _ z => z) ?_ | (refine kO 1 rfl ?_; refine rG (fun _ z => z) ?_) | (refine kO 3 rfl ?_; first | refine rLdb rfl rfl rfl rfl rfl rfl rfl ?_ | refine rG (fun _ z => z) ?_) | (refine kO 4 rfl ?_; refine rG (fun _ z => z) ?_) | (refine kO 7 rfl ?_; first | refine rG (fun _ z => ⟨_, s1, z⟩) ?_ | refine rG (fun _ z => ⟨_, s2, z⟩) ?_ | refine rG (fun _ z => ⟨_, s3, z⟩) ?_) | refine oN ?_ | refine aS ?_ | refine aR ?_ | refine aK ?_ | refine aB ?_ | refine aT ?_ | refine aC rfl ?_ | refine bF ?_ | refine bPf (by omega) ?_); (try conv => whnf))
        (done)
  · rw [if_pos h]
    generalize pairErr e q ch sa la sb lb = z at *
    refine Sat_of_awp (fn := f18) cx_ok (by kernel_rfl) (by kernel_rfl) rfl (by kernel_rfl) (Nat.le_of_ble_eq_true rfl) ?_
    repeat ((first | refine oP rfl ?_ | refine rP rfl (fun _ z => z) ?_ | (refine kO 1 rfl ?_; refine rG (fun _ z => z) ?_) | (refine kO 3 rfl ?_; refine rG (fun _ z => z) ?_) | (refine kO 4 rfl ?_; refine rG (fun _ z => z) ?_) | (refine kO 7 rfl ?_; refine rG (fun _ z => ⟨_, s1, z⟩) ?_) | refine oN ?_ | refine aS ?_ | refine aR ?_ | refine aB ?_ | refine aT ?_ | refine aC rfl ?_ | refine bPt (by omega) ?_); (try conv => whnf))
    (rfl)
end Go.Proofs.Tryz

namespace Go.Proofs.Tryz
open Go.Fw Go.IntWalk Go.Plain
set_option maxRecDepth 100000
set_option maxHeartbeats 8000000
theorem quo_neg {n g : Int} (hn : inR (-n)) (hg : 0 < g) (hd : g ∣ n) : IntKind.i64.wrap (n.tdiv (-g)) = -n / g := by
  rw [Int.tdiv_neg, ← Int.neg_tdiv]
  exact quo_div hn hg (Int.dvd_neg.2 hd)
def cq (x y : Qn) : Int := cmpF x.1 x.2 y.1 y.2
theorem cq_lt (x y : Qn) : cq x y < 0 ↔ ltQ x y := by
  unfold cq cmpF ltQ; (repeat' split) <;> omega
theorem cq_gt (x y : Qn) : cq x y > 0 ↔ ltQ y x := by
  unfold cq cmpF ltQ; (repeat' split) <;> omega
theorem cq_le (x y : Qn) : cq x y ≤ 0 ↔ ¬ ltQ y x := by rw [← cq_gt]; omega
theorem qcmp_sat {x y : Qn} (hx : bdQ x) (hy : bdQ y) : Sat cx.P cx.gl 77 [qv x, qv y] (.one (I (cq x y))) := by
  have h1 := bd_mid hx hy
  have h2 := bd_mid hy hx
  exact cmp_sat x.1 x.2 y.1 y.2 (by unfold mid at h1; omega) (by unfold mid at h2; omega)
/-- What limit returns. -/
def lm (s : Iv) (n m : Int) : Iv × Bool := if n = 0 ∧ m < 0 then (s, false) else (amS s n m, decide (¬ empS (amS s n m)))
end Go.Proofs.Tryz

namespace Go.Proofs.Tryz
open Go.Fw Go.IntWalk Go.Plain
set_option maxRecDepth 100000
set_option maxHeartbeats 8000000
theorem oneS_app (e : Int) (k : List (Int × Int)) : ∀ (l : List (Int × Int)) (s : Option Iv), oneS e (l ++ k) s = oneS e k (oneS e l s)
  | [], _ => rfl
  | _ :: l, _ => oneS_app e k l _
theorem limS_lm (s : Iv) (n m : Int) : limS s n m = if (lm s n m).2 then some (lm s n m).1 else none := by
  unfold limS lm
  by_cases h : n = 0 ∧ m < 0
  · rw [if_pos h, if_pos h]; simp
  · rw [if_neg h, if_neg h]
    by_cases h' : empS (amS s n m)
    · rw [if_pos h']; simp [h']
    · rw [if_neg h']; simp [h']
theorem lm_bd {s : Iv} {n m : Int} (h : bdS s) (hn : b5 n) (hm : b5 m) : bdS (lm s n m).1 := by
  unfold lm
  split
  · exact h
  · exact am_bd h hn hm
abbrev vBo (b : Bool) : Option DV := some (.val (false, [.st (.lit (.bool b))]))
/-- What Factors returns. -/
def facO (o : Option Iv) : List SV := match o with | some s => [(true, iv s), Bo true] | none => [F4 0 0 0 0, Bo false]
end Go.Proofs.Tryz

namespace Go.Proofs.Tryz
open Go.Fw Go.IntWalk Go.Plain
set_option maxRecDepth 100000
set_option maxHeartbeats 8000000
/-- A pair of records. -/
abbrev Rp (sa : Int) (la : List Int) (sb : Int) (lb : List Int) : SV := (true, [J sa, .ints la, J sb, .ints lb])
/-- The program's all and the reference's one by one. -/
theorem factors_one {e : Int} {q : Sp} {ch : List Sp} {sa : Int} {la : List Int} {sb : Int} {lb : List Int} (h : pairErr e q ch sa la sb lb = 0) :
    (∃ o, oneS e (PI la lb (rng la.length)) (some (sF q)) = some o ∧ SS e q la lb = o ∧ ¬ empS o) ∨ (oneS e (PI la lb (rng la.length)) (some (sF q)) = none ∧ empS (SS e q la lb)) := by
  obtain ⟨_, hF, hne, _⟩ := pair_facts h
  exact all_one (bdS_pos hF) (PI la lb (rng la.length)) (bdS_pos hF) (within_refl _) hne
end Go.Proofs.Tryz
