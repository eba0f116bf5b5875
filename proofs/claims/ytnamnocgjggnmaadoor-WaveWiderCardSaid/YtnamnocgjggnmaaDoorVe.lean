/- Parts of the proof, joined. -/
import Derived.Test.YtnamnocgjggnmaaDoorVp
import Derived.Test.YtnamnocgjggnmaaDoorVt
import Derived.Test.YtnamnocgjggnmaaDoorVb
import Derived.Test.YtnamnocgjggnmaaDoorM
namespace Go.Proofs.Tryd
open Go.Fw Go.IntWalk Go.Plain
set_option maxRecDepth 100000
set_option maxHeartbeats 8000000
theorem fgErr_zero {l : List Int} {e : Int} (h : fgErr l e = 0) : 0 < pkV l - e ∧ 0 ≤ t30h l e ∧ 0 ≤ t90h l e ∧ 0 ≤ hfh l e := by
  unfold fgErr at h
  repeat' split at h
  all_goals omega
theorem fg_ok {l : List Int} {e : Int} (h1 : 3 ≤ l.length) (h2 : l.length ≤ 64) (hA : AllIn l (-4096) 4096) (he : 0 ≤ e ∧ e ≤ 100) (h : fgErr l e = 0) :
    (1 ≤ pkV l - e ∧ pkV l + e ≤ 4196) ∧ pk l < l.length ∧ (0 ≤ t30l l e ∧ t30l l e ≤ t30h l e ∧ t30h l e ≤ 63) ∧ (0 ≤ t90l l e ∧ t90l l e ≤ t90h l e ∧ t90h l e ≤ 63) ∧ (0 ≤ hfl l e ∧ hfl l e ≤ hfh l e ∧ hfh l e ≤ 63) ∧ figErr (pk l : Nat) (pkV l - e) (pkV l + e) (t30l l e) (t30h l e) (t90l l e) (t90h l e) (hfl l e) (hfh l e) = 0 := by
  obtain ⟨k1, k2, k3, k4⟩ := fgErr_zero h
  have hv := pkV_in (by omega) hA
  have hp : pk l < l.length := pkT_lt (by omega)
  have b1 := fF_bound (lvHi e 3 (pkV l + e)) l (Nat.zero_le _)
  have b2 := fF_bound (lvHi e 9 (pkV l + e)) l (Nat.zero_le _)
  have b3 := fF_bound (hfHi e (pkV l - e)) l (show pk l + 1 ≤ l.length by omega)
  have m1 := fF_le (p := lvHi e 3 (pkV l + e)) (q := lvLo e 3 (pkV l - e)) (l := l) (l' := l) (a := 0) rfl (Nat.zero_le _) (fun j _ _ hj => by simp only [lvHi, lvLo, decide_eq_true_eq] at *; omega) k2
  have m2 := fF_le (p := lvHi e 9 (pkV l + e)) (q := lvLo e 9 (pkV l - e)) (l := l) (l' := l) (a := 0) rfl (Nat.zero_le _) (fun j _ _ hj => by simp only [lvHi, lvLo, decide_eq_true_eq] at *; omega) k3
  have m3 := fF_le (p := hfHi e (pkV l - e)) (q := hfLo e (pkV l + e)) (l := l) (l' := l) (a := pk l + 1) rfl (by omega) (fun j _ _ hj => by simp only [hfHi, hfLo, decide_eq_true_eq] at *; omega) k4
  have c1 : 0 ≤ t30l l e ∧ t30l l e ≤ t30h l e := m1
  have c2 : 0 ≤ t90l l e ∧ t90l l e ≤ t90h l e := m2
  have c3 : 0 ≤ hfl l e ∧ hfl l e ≤ hfh l e := m3
  have d1 : -1 ≤ t30h l e ∧ t30h l e < l.length := b1
  have d2 : -1 ≤ t90h l e ∧ t90h l e < l.length := b2
  have d3 : -1 ≤ hfh l e ∧ hfh l e < l.length := b3
  refine ⟨by omega, hp, by omega, by omega, by omega, ?_⟩
  unfold figErr
  rw [if_pos (by omega), if_pos (by omega)]
abbrev bFG (l : List Int) (e : Int) : Option Blk := some (.box 51 [.st (J (pk l : Nat)), .st (J (pkV l - e)), .st (J (pkV l + e)), .st (J (t30l l e)), .st (J (t30h l e)), .st (J (t90l l e)), .st (J (t90h l e)), .st (J (hfl l e)), .st (J (hfh l e))])
abbrev lv (t m : Int) : Int → Bool := fun n => decide (10 * n ≥ t * m)
abbrev hfm (m : Int) : Int → Bool := fun n => decide (2 * n ≤ m)
theorem mx_step (l : List Int) (i : Nat) : (if l.getD i 0 > l.getD (pkT l i) 0 then l.getD i 0 else l.getD (pkT l i) 0) = l.getD (pkT l (i + 1)) 0 := by
  show _ = l.getD (if l.getD i 0 > l.getD (pkT l i) 0 then i else pkT l i) 0
  split <;> rfl
/-- What is asked of true samples. -/
theorem enclosed {l y : List Int} {e : Int} (h1 : 3 ≤ l.length) (h2 : l.length ≤ 64) (_hA : AllIn l (-4096) 4096) (_he : 0 ≤ e ∧ e ≤ 100) (h : fgErr l e = 0) (hl : l.length = y.length) (hn : ∀ j, j < l.length → l.getD j 0 - e ≤ y.getD j 0 ∧ y.getD j 0 ≤ l.getD j 0 + e) :
    (pkV l - e ≤ pkV y ∧ pkV y ≤ pkV l + e) ∧ (t30l l e ≤ fF (lv 3 (pkV y)) y 0 ∧ fF (lv 3 (pkV y)) y 0 ≤ t30h l e) ∧ (t90l l e ≤ fF (lv 9 (pkV y)) y 0 ∧ fF (lv 9 (pkV y)) y 0 ≤ t90h l e) ∧ hfl l e ≤ fF (hfm (pkV y)) y (pk l + 1) ∧ fF (hfm (pkV y)) y (pk l + 1) ≤ hfh l e := by
  obtain ⟨k1, k2, k3, k4⟩ := fgErr_zero h
  have hv := pkV_near hl (by omega) hn
  have hp : pk l < l.length := pkT_lt (by omega)
  have m1 := fF_le (p := lvHi e 3 (pkV l + e)) (q := lv 3 (pkV y)) (l := l) (l' := y) (a := 0) hl (Nat.zero_le _) (fun j _ hj2 hj => by have := hn j hj2; simp only [lvHi, lv, decide_eq_true_eq] at *; omega) k2
  have n1 := fF_le (p := lv 3 (pkV y)) (q := lvLo e 3 (pkV l - e)) (l := y) (l' := l) (a := 0) hl.symm (Nat.zero_le _) (fun j _ hj2 hj => by have := hn j (by omega); simp only [lvLo, lv, decide_eq_true_eq] at *; omega) m1.1
  have m2 := fF_le (p := lvHi e 9 (pkV l + e)) (q := lv 9 (pkV y)) (l := l) (l' := y) (a := 0) hl (Nat.zero_le _) (fun j _ hj2 hj => by have := hn j hj2; simp only [lvHi, lv, decide_eq_true_eq] at *; omega) k3
  have n2 := fF_le (p := lv 9 (pkV y)) (q := lvLo e 9 (pkV l - e)) (l := y) (l' := l) (a := 0) hl.symm (Nat.zero_le _) (fun j _ hj2 hj => by have := hn j (by omega); simp only [lvLo, lv, decide_eq_true_eq] at *; omega) m2.1
  have m3 := fF_le (p := hfHi e (pkV l - e)) (q := hfm (pkV y)) (l := l) (l' := y) (a := pk l + 1) hl (by omega) (fun j _ hj2 hj => by have := hn j hj2; simp only [hfHi, hfm, decide_eq_true_eq] at *; omega) k4
  have n3 := fF_le (p := hfm (pkV y)) (q := hfLo e (pkV l + e)) (l := y) (l' := l) (a := pk l + 1) hl.symm (by omega) (fun j _ hj2 hj => by have := hn j (by omega); simp only [hfLo, hfm, decide_eq_true_eq] at *; omega) m3.1
  exact ⟨hv, ⟨n1.2, m1.2⟩, ⟨n2.2, m2.2⟩, n3.2, m3.2⟩
theorem waveEnclosed_sat (e : Int) (q : Sp) (ch : List Sp) (st : Int) (l b : List Int) (hq : SpI q) (hch : ∀ s ∈ ch, SpI s) (hl : l.length ≤ maxLen) (hb : ∀ n ∈ b, inI n) : Sat cx.P cx.gl 4 [Ru e q ch, Rc st l, L b] (.one (Bo true)) := by
  have w2 := fewFactors_sat e q ch
  have s1 := bothErr_sat e q ch st l hq hch hl
  by_cases h2 : ch.length ≤ 6
  · by_cases h0 : bothErr e q ch st l = 0
    · rw [h0] at s1
      obtain ⟨g1, g2⟩ := bothErr_zero h0
      obtain ⟨he, _⟩ := rulesErr_zero g1
      obtain ⟨_, k1, k2, hA⟩ := recErr_zero g2
      by_cases hb1 : b.length < l.length
      · refine Sat_of_awp (fn := f4) cx_ok (by kernel_rfl) (by kernel_rfl) rfl (by kernel_rfl) (Nat.le_of_ble_eq_true rfl) ?_
        repeat ((first | refine oP rfl ?_ | refine rP rfl (fun _ z => z) ?_ | (refine kO 1 rfl ?_; refine rG (fun _ z => z) ?_) | (refine kO 2 rfl ?_; refine rG (fun _ z => z) ?_) | (refine kO 3 rfl ?_; first | refine rLdb rfl rfl rfl rfl rfl rfl rfl ?_ | refine rG (fun _ z => z) ?_) | (refine kO 7 rfl ?_; first | refine rG (fun _ z => ⟨_, awake8_sat, z⟩) ?_ | refine rG (fun _ z => ⟨_, w2, z⟩) ?_ | refine rG (fun _ z => ⟨_, s1, z⟩) ?_) | (refine kO 6 rfl ?_; refine rLen rfl rfl rfl rfl rfl rfl ?_) | refine oN ?_ | refine aS ?_ | refine aR ?_ | refine aK ?_ | refine aT ?_ | refine aC rfl ?_ | refine bT ?_ | refine bF ?_ | refine oY rfl rfl rfl ?_ | refine oZ rfl rfl rfl ?_ | refine oUt rfl rfl rfl (by omega) ?_ | refine oUf rfl rfl rfl (by omega) ?_); (try conv => whnf))
        (done)
      · by_cases hb2 : b.length > 70
        · refine Sat_of_awp (fn := f4) cx_ok (by kernel_rfl) (by kernel_rfl) rfl (by kernel_rfl) (Nat.le_of_ble_eq_true rfl) ?_
          repeat ((first | refine oP rfl ?_ | refine rP rfl (fun _ z => z) ?_ | (refine kO 1 rfl ?_; refine rG (fun _ z => z) ?_) | (refine kO 2 rfl ?_; refine rG (fun _ z => z) ?_) | (refine kO 3 rfl ?_; first | refine rLdb rfl rfl rfl rfl rfl rfl rfl ?_ | refine rG (fun _ z => z) ?_) | (refine kO 7 rfl ?_; first | refine rG (fun _ z => ⟨_, awake8_sat, z⟩) ?_ | refine rG (fun _ z => ⟨_, w2, z⟩) ?_ | refine rG (fun _ z => ⟨_, s1, z⟩) ?_) | (refine kO 6 rfl ?_; refine rLen rfl rfl rfl rfl rfl rfl ?_) | refine oN ?_ | refine aS ?_ | refine aR ?_ | refine aK ?_ | refine aT ?_ | refine aC rfl ?_ | refine bF ?_ | refine bPt (by omega) ?_ | refine oY rfl rfl rfl ?_ | refine oUf rfl rfl rfl (by omega) ?_); (try conv => whnf))
          (done)
        · have c1 := copyRules_sat e q ch (by omega)
          have c2 := copyRecord_sat st l (by omega)
          have s2 := figuresOf_sat e q ch st l hq hch (by omega) hl
          have hfe : figE e q ch st l = fgErr l e := by unfold figE; rw [if_neg (by omega)]
          rw [hfe] at s2
          by_cases hf : fgErr l e = 0
          · rw [if_pos hf] at s2
            obtain ⟨j1, j2, j3, j4, j5, j6⟩ := fg_ok k1 k2 hA he hf
            have s3 := refFigErr_sat (pk l : Nat) (pkV l - e) (pkV l + e) (t30l l e) (t30h l e) (t90l l e) (t90h l e) (hfl l e) (hfh l e)
            rw [j6] at s3
            have en : ∀ y : List Int, l.length = y.length → (∀ j, j < l.length → l.getD j 0 - e ≤ y.getD j 0 ∧ y.getD j 0 ≤ l.getD j 0 + e) → _ := fun y => enclosed k1 k2 hA he hf
            refine Sat_of_awp (fn := f4) cx_ok (by kernel_rfl) (by kernel_rfl) rfl (by kernel_rfl) (Nat.le_of_ble_eq_true rfl) ?_
            repeat ((first | refine oP rfl ?_ | refine rP rfl (fun _ z => z) ?_ | (refine kO 1 rfl ?_; refine rG (fun _ z => z) ?_) | (refine kO 2 rfl ?_; refine rG (fun _ z => z) ?_) | (refine kO 3 rfl ?_; first | refine rLdb rfl rfl rfl rfl rfl rfl rfl ?_ | refine rG (fun _ z => z) ?_) | (refine kO 4 rfl ?_; refine rG (fun _ z => z) ?_) | (refine kO 7 rfl ?_; first | refine rG (fun _ z => ⟨_, awake8_sat, z⟩) ?_ | refine rG (fun _ z => ⟨_, w2, z⟩) ?_ | refine rG (fun _ z => ⟨_, s1, z⟩) ?_ | refine rG (fun _ z => ⟨_, c1, z⟩) ?_ | refine rG (fun _ z => ⟨_, c2, z⟩) ?_ | refine rG (fun _ z => ⟨_, s2, z⟩) ?_ | refine rG (fun _ z => ⟨_, s3, z⟩) ?_) | (refine kO 6 rfl ?_; refine rLen rfl rfl rfl rfl rfl rfl ?_) | refine oN ?_ | refine aS ?_ | refine aR ?_ | refine aK ?_ | refine aB ?_ | refine aC rfl ?_ | refine bF ?_ | refine bPf (by omega) ?_ | refine aL ?_ | refine oY rfl rfl rfl ?_ | refine oUf rfl rfl rfl (by omega) ?_ | refine dI (by kernel_rfl) ?_); (try conv => whnf))
            -- the true samples
            refine loop_round ?_
            have d1 := getD_in hA (show 0 < l.length by omega)
            have d2 := mod_sat (b.getD 0 0) (2 * e + 1) (hb _ (getD_mem (by omega))) (by omega)
            have d3 := Int.emod_nonneg (b.getD 0 0) (show 2 * e + 1 ≠ 0 by omega)
            have d4 := Int.emod_lt_of_pos (b.getD 0 0) (show 0 < 2 * e + 1 by omega)
            repeat ((first | refine oP rfl ?_ | refine rP rfl (fun _ z => z) ?_ | (refine kO 1 rfl ?_; first | refine rAdd rfl rfl rfl (by omega) ?_ | refine rSub rfl rfl rfl (by omega) ?_ | refine rMul rfl rfl rfl (by omega) ?_ | refine rG (fun _ z => z) ?_) | (refine kO 3 rfl ?_; first | refine rLdr rfl rfl rfl rfl rfl ?_ | refine rLdb rfl rfl rfl rfl rfl rfl rfl ?_) | (refine kO 5 rfl ?_; refine rIdN rfl rfl rfl rfl rfl rfl rfl (by omega) ?_) | (refine kO 7 rfl ?_; refine rG (fun _ z => ⟨_, d2, z⟩) ?_) | (refine kO 6 rfl ?_; refine rLen rfl rfl rfl rfl rfl rfl ?_) | refine oN ?_ | refine aS ?_ | refine aR ?_ | refine aK ?_ | refine aB ?_ | refine aC rfl ?_ | refine bPt (by omega) ?_ | refine dI (by kernel_rfl) ?_ | refine rG (fun _ z => ⟨(by (rfl)), (by (((try unfold SC.len); (try unfold SC.uni); (try unfold LIM); (try simp); (try omega); done))), z⟩) ?_); (try conv => whnf))
            refine loop_ind (ι := Nat) (fun i => 1 ≤ i ∧ i ≤ l.length) (fun i => l.length - i) (fun i => ⟨[(2, vL b), (3, pP 0), (4, pP 1), (7, pP 2), (9, pO 3), (10, vI i)], [(0, bRu e q ch), (1, bRc st l), (2, bFG l e), (3, some (.row true 1 (.ints (chg l b e (2 * e + 1) i))))], 4⟩) 1 (canon_auto (by kernel_rfl)) ⟨by omega, by omega⟩ ?_
            clear d1 d2 d3 d4
            rintro i ⟨hi0, hi⟩
            have e1 := chg_len l b e (2 * e + 1) i
            have e2 := chg_succ l b e (2 * e + 1) i
            by_cases hlt : i < l.length
            · have d1 := getD_in hA hlt
              have d2 := mod_sat (b.getD i 0) (2 * e + 1) (hb _ (getD_mem (by omega))) (by omega)
              have d3 := Int.emod_nonneg (b.getD i 0) (show 2 * e + 1 ≠ 0 by omega)
              have d4 := Int.emod_lt_of_pos (b.getD i 0) (show 0 < 2 * e + 1 by omega)
              repeat ((first | refine oP rfl ?_ | refine rP rfl (fun _ z => z) ?_ | (refine kO 1 rfl ?_; first | refine rAdd rfl rfl rfl (by omega) ?_ | refine rSub rfl rfl rfl (by omega) ?_ | refine rMul rfl rfl rfl (by omega) ?_ | refine rG (fun _ z => z) ?_) | (refine kO 3 rfl ?_; first | refine rLdr rfl rfl rfl rfl rfl ?_ | refine rLdb rfl rfl rfl rfl rfl rfl rfl ?_) | (refine kO 5 rfl ?_; refine rIdN rfl rfl rfl rfl rfl rfl rfl (by omega) ?_) | (refine kO 7 rfl ?_; refine rG (fun _ z => ⟨_, d2, z⟩) ?_) | (refine kO 6 rfl ?_; refine rLen rfl rfl rfl rfl rfl rfl ?_) | refine oN ?_ | refine aS ?_ | refine aR ?_ | refine aK ?_ | refine aB ?_ | refine aC rfl ?_ | refine bPt (by omega) ?_ | refine dI (by kernel_rfl) ?_ | refine rG (fun _ z => ⟨(by (rfl)), (by (exact lnS (by omega))), z⟩) ?_); (try conv => whnf))
              rw [← e2]
              exact ⟨i + 1, ⟨by omega, hlt⟩, by omega, canon_auto (by kernel_rfl)⟩
            · obtain rfl : i = l.length := by omega
              have hn : ∀ j, j < l.length → l.getD j 0 - e ≤ (chg l b e (2 * e + 1) l.length).getD j 0 ∧ (chg l b e (2 * e + 1) l.length).getD j 0 ≤ l.getD j 0 + e := fun j hj => chg_near (by omega) hj
              clear e2
              have en := en _ e1.symm hn
              generalize chg l b e (2 * e + 1) l.length = y at *
              have hyb : ∀ j, j < y.length → -4200 ≤ y.getD j 0 ∧ y.getD j 0 ≤ 4200 := fun j hj => by
                have := hn j (by omega)
                have := getD_in hA (show j < l.length by omega)
                omega
              clear hn
              repeat ((first | refine oP rfl ?_ | refine rP rfl (fun _ z => z) ?_ | (refine kO 1 rfl ?_; refine rG (fun _ z => z) ?_) | (refine kO 3 rfl ?_; first | refine rLdb rfl rfl rfl rfl rfl rfl rfl ?_ | refine rLdi rfl rfl rfl rfl rfl rfl (by omega) ?_) | (refine kO 5 rfl ?_; refine rIdoN rfl rfl rfl rfl rfl rfl rfl rfl (by (dsimp only [SC.len]; omega)) ?_) | (refine kO 6 rfl ?_; refine rLen rfl rfl rfl rfl rfl rfl ?_) | refine oN ?_ | refine aS ?_ | refine aR ?_ | refine aX ?_ | refine aB ?_ | refine aC rfl ?_ | refine bPf (by omega) ?_ | refine aL ?_); (try conv => whnf))
              -- their maximum
              refine loop_ind (ι := Nat) (fun i => i ≤ y.length) (fun i => y.length - i) (fun i => ⟨[(7, pP 0), (9, pO 1), (11, vI (y.getD (pkT y i) 0)), (12, vI i)], [(0, bFG l e), (1, some (.row true 1 (.ints y)))], 2⟩) 0 (canon_auto (by kernel_rfl)) (Nat.zero_le _) ?_
              intro i hi
              have hs := mx_step y i
              by_cases hlt : i < y.length
              · repeat ((first | refine oP rfl ?_ | refine rP rfl (fun _ z => z) ?_ | (refine kO 1 rfl ?_; first | refine rAdd rfl rfl rfl (by omega) ?_ | refine rG (fun _ z => z) ?_) | (refine kO 3 rfl ?_; refine rLdi rfl rfl rfl rfl rfl rfl (by omega) ?_) | (refine kO 5 rfl ?_; refine rIdoN rfl rfl rfl rfl rfl rfl rfl rfl (by (dsimp only [SC.len]; omega)) ?_) | (refine kO 6 rfl ?_; first | refine rLeno rfl rfl rfl rfl rfl rfl rfl ?_ | refine rG (fun _ z => z) ?_) | refine oN ?_ | refine aS ?_ | refine aR ?_ | refine aK ?_ | refine aB ?_ | refine aC rfl ?_ | refine bPt (by omega) ?_); (try conv => whnf))
                exact ⟨i + 1, hlt, by omega, canon_auto (by rw [← hs]; kernel_rfl)⟩
              · obtain rfl : i = y.length := by omega
                clear hs
                have hm := hyb (pk y) (pkT_lt (by omega))
                change -4200 ≤ pkV y ∧ pkV y ≤ 4200 at hm
                show Awp _ _ ⟨[_, _, (11, vI (pkV y)), _], _, _⟩ _ _ _
                generalize pkV y = m at *
                repeat ((first | refine oP rfl ?_ | refine rP rfl (fun _ z => z) ?_ | (refine kO 1 rfl ?_; first | refine rSub rfl rfl rfl (by omega) ?_ | refine rG (fun _ z => z) ?_) | (refine kO 6 rfl ?_; refine rLeno rfl rfl rfl rfl rfl rfl rfl ?_) | refine oN ?_ | refine aS ?_ | refine aR ?_ | refine aX ?_ | refine aB ?_ | refine aC rfl ?_ | refine bPf (by omega) ?_ | refine aL ?_); (try conv => whnf))
                -- the first indexes
                refine loop_ind (ι := Int) (fun i => -1 ≤ i ∧ i < y.length) (fun i => (i + 1).toNat) (fun i => ⟨[(7, pP 0), (9, pO 1), (11, vI m), (13, vI (fF (lv 3 m) y (i + 1).toNat)), (14, vI (fF (lv 9 m) y (i + 1).toNat)), (15, vI (fF (hfm m) y (max (i + 1).toNat (pk l + 1)))), (16, vI i)], [(0, bFG l e), (1, some (.row true 1 (.ints y)))], 2⟩) ((y.length : Int) - 1) (canon_auto (by rw [show ((y.length : Int) - 1 + 1).toNat = y.length by omega, show max y.length (pk l + 1) = y.length by omega, fF_end, fF_end, fF_end]; kernel_rfl)) ⟨by omega, by omega⟩ ?_
                rintro i ⟨hi0, hi⟩
                by_cases hz : 0 ≤ i
                · have hlt : i.toNat < y.length := by omega
                  have hb3 := hyb _ hlt
                  have s1 := fF_step (p := lv 3 m) hlt
                  have s2 := fF_step (p := lv 9 m) hlt
                  have s3 : fF (hfm m) y (max i.toNat (pk l + 1)) = if i > (pk l : Nat) ∧ 2 * y.getD i.toNat 0 ≤ m then i else fF (hfm m) y (max (i + 1).toNat (pk l + 1)) := by
                    by_cases hk : i > (pk l : Nat)
                    · have s := fF_step (p := hfm m) hlt
                      simp only [hfm, decide_eq_true_eq] at s
                      rw [show max i.toNat (pk l + 1) = i.toNat by omega, show max (i + 1).toNat (pk l + 1) = i.toNat + 1 by omega]
                      unfold hfm
                      rw [s]
                      by_cases h2 : 2 * y.getD i.toNat 0 ≤ m
                      · rw [if_pos h2, if_pos ⟨hk, h2⟩]; omega
                      · rw [if_neg h2, if_neg (fun h => h2 h.2)]
                    · rw [if_neg (fun h => hk h.1), show max i.toNat (pk l + 1) = max (i + 1).toNat (pk l + 1) by omega]
                  rw [show i.toNat + 1 = (i + 1).toNat by omega, show ((i.toNat : Nat) : Int) = i by omega] at s1 s2
                  simp only [lv, decide_eq_true_eq] at s1 s2
                  unfold lv at *
                  generalize fF (fun n => decide (10 * n ≥ 3 * m)) y (i + 1).toNat = A at *
                  generalize fF (fun n => decide (10 * n ≥ 9 * m)) y (i + 1).toNat = B at *
                  generalize fF (hfm m) y (max (i + 1).toNat (pk l + 1)) = D at *
                  by_cases n1 : 10 * y.getD i.toNat 0 ≥ 3 * m
                  · rw [if_pos n1] at s1
                    by_cases n2 : 10 * y.getD i.toNat 0 ≥ 9 * m
                    · rw [if_pos n2] at s2
                      by_cases n3 : i > (pk l : Nat) ∧ 2 * y.getD i.toNat 0 ≤ m
                      · rw [if_pos n3] at s3
                        repeat' ((first | refine oP rfl ?_ | refine rP rfl (fun _ z => z) ?_ | (refine kO 1 rfl ?_; first | refine rSub rfl rfl rfl (by omega) ?_ | refine rMul rfl rfl rfl (by omega) ?_ | refine rG (fun _ z => z) ?_) | (refine kO 3 rfl ?_; first | refine rLdb rfl rfl rfl rfl rfl rfl rfl ?_ | refine rLdi rfl rfl rfl rfl rfl rfl (by omega) ?_) | (refine kO 5 rfl ?_; refine rIdo rfl rfl rfl rfl rfl rfl rfl rfl (by omega) ?_) | refine oN ?_ | refine aS ?_ | refine aR ?_ | refine aK ?_ | refine aB ?_ | refine aC rfl ?_ | refine bPt (by omega) ?_ | refine oY rfl rfl rfl ?_ | refine oIt rfl rfl rfl (by omega) ?_) <;> (try conv => whnf))
                        all_goals (exfalso; omega)
                      · rw [if_neg n3] at s3
                        repeat' ((first | refine oP rfl ?_ | refine rP rfl (fun _ z => z) ?_ | (refine kO 1 rfl ?_; first | refine rSub rfl rfl rfl (by omega) ?_ | refine rMul rfl rfl rfl (by omega) ?_ | refine rG (fun _ z => z) ?_) | (refine kO 3 rfl ?_; first | refine rLdb rfl rfl rfl rfl rfl rfl rfl ?_ | refine rLdi rfl rfl rfl rfl rfl rfl (by omega) ?_) | (refine kO 5 rfl ?_; refine rIdo rfl rfl rfl rfl rfl rfl rfl rfl (by (dsimp only [SC.len]; omega)) ?_) | refine oN ?_ | refine aS ?_ | refine aR ?_ | refine aK ?_ | refine aB ?_ | refine aC rfl ?_ | refine bF ?_ | refine bPt (by omega) ?_ | refine bPf (by omega) ?_ | refine oY rfl rfl rfl ?_ | refine oZ rfl rfl rfl ?_ | refine opsA_ifp rfl rfl rfl (fun h => ?_) (fun h => ?_)) <;> (try conv => whnf))
                        all_goals exact ⟨i - 1, ⟨by omega, by omega⟩, by omega, canon_auto (by rw [show i - 1 + 1 = i by omega, s1, s2, s3]; kernel_rfl)⟩
                    · rw [if_neg n2] at s2
                      by_cases n3 : i > (pk l : Nat) ∧ 2 * y.getD i.toNat 0 ≤ m
                      · rw [if_pos n3] at s3
                        repeat' ((first | refine oP rfl ?_ | refine rP rfl (fun _ z => z) ?_ | (refine kO 1 rfl ?_; first | refine rSub rfl rfl rfl (by omega) ?_ | refine rMul rfl rfl rfl (by omega) ?_ | refine rG (fun _ z => z) ?_) | (refine kO 3 rfl ?_; first | refine rLdb rfl rfl rfl rfl rfl rfl rfl ?_ | refine rLdi rfl rfl rfl rfl rfl rfl (by omega) ?_) | (refine kO 5 rfl ?_; refine rIdo rfl rfl rfl rfl rfl rfl rfl rfl (by (dsimp only [SC.len]; omega)) ?_) | refine oN ?_ | refine aS ?_ | refine aR ?_ | refine aK ?_ | refine aB ?_ | refine aC rfl ?_ | refine bPt (by omega) ?_ | refine bPf (by omega) ?_ | refine oY rfl rfl rfl ?_ | refine oIt rfl rfl rfl (by omega) ?_) <;> (try conv => whnf))
                        all_goals exact ⟨i - 1, ⟨by omega, by omega⟩, by omega, canon_auto (by rw [show i - 1 + 1 = i by omega, s1, s2, s3]; kernel_rfl)⟩
                      · rw [if_neg n3] at s3
                        repeat' ((first | refine oP rfl ?_ | refine rP rfl (fun _ z => z) ?_ | (refine kO 1 rfl ?_; first | refine rSub rfl rfl rfl (by omega) ?_ | refine rMul rfl rfl rfl (by omega) ?_ | refine rG (fun _ z => z) ?_) | (refine kO 3 rfl ?_; first | refine rLdb rfl rfl rfl rfl rfl rfl rfl ?_ | refine rLdi rfl rfl rfl rfl rfl rfl (by omega) ?_) | (refine kO 5 rfl ?_; refine rIdo rfl rfl rfl rfl rfl rfl rfl rfl (by (dsimp only [SC.len]; omega)) ?_) | refine oN ?_ | refine aS ?_ | refine aR ?_ | refine aK ?_ | refine aB ?_ | refine aC rfl ?_ | refine bF ?_ | refine bPt (by omega) ?_ | refine bPf (by omega) ?_ | refine oY rfl rfl rfl ?_ | refine oZ rfl rfl rfl ?_ | refine opsA_ifp rfl rfl rfl (fun h => ?_) (fun h => ?_)) <;> (try conv => whnf))
                        all_goals exact ⟨i - 1, ⟨by omega, by omega⟩, by omega, canon_auto (by rw [show i - 1 + 1 = i by omega, s1, s2, s3]; kernel_rfl)⟩
                  · rw [if_neg n1] at s1
                    have n2 : ¬ 10 * y.getD i.toNat 0 ≥ 9 * m ∨ 10 * y.getD i.toNat 0 ≥ 9 * m := by omega
                    rcases n2 with n2 | n2
                    · rw [if_neg n2] at s2
                      by_cases n3 : i > (pk l : Nat) ∧ 2 * y.getD i.toNat 0 ≤ m
                      · rw [if_pos n3] at s3
                        repeat' ((first | refine oP rfl ?_ | refine rP rfl (fun _ z => z) ?_ | (refine kO 1 rfl ?_; first | refine rSub rfl rfl rfl (by omega) ?_ | refine rMul rfl rfl rfl (by omega) ?_ | refine rG (fun _ z => z) ?_) | (refine kO 3 rfl ?_; first | refine rLdb rfl rfl rfl rfl rfl rfl rfl ?_ | refine rLdi rfl rfl rfl rfl rfl rfl (by omega) ?_) | (refine kO 5 rfl ?_; refine rIdo rfl rfl rfl rfl rfl rfl rfl rfl (by (dsimp only [SC.len]; omega)) ?_) | refine oN ?_ | refine aS ?_ | refine aR ?_ | refine aK ?_ | refine aB ?_ | refine aC rfl ?_ | refine bPt (by omega) ?_ | refine bPf (by omega) ?_ | refine oY rfl rfl rfl ?_ | refine oIt rfl rfl rfl (by omega) ?_) <;> (try conv => whnf))
                        all_goals exact ⟨i - 1, ⟨by omega, by omega⟩, by omega, canon_auto (by rw [show i - 1 + 1 = i by omega, s1, s2, s3]; kernel_rfl)⟩
                      · rw [if_neg n3] at s3
                        repeat' ((first | refine oP rfl ?_ | refine rP rfl (fun _ z => z) ?_ | (refine kO 1 rfl ?_; first | refine rSub rfl rfl rfl (by omega) ?_ | refine rMul rfl rfl rfl (by omega) ?_ | refine rG (fun _ z => z) ?_) | (refine kO 3 rfl ?_; first | refine rLdb rfl rfl rfl rfl rfl rfl rfl ?_ | refine rLdi rfl rfl rfl rfl rfl rfl (by omega) ?_) | (refine kO 5 rfl ?_; refine rIdo rfl rfl rfl rfl rfl rfl rfl rfl (by (dsimp only [SC.len]; omega)) ?_) | refine oN ?_ | refine aS ?_ | refine aR ?_ | refine aK ?_ | refine aB ?_ | refine aC rfl ?_ | refine bF ?_ | refine bPt (by omega) ?_ | refine bPf (by omega) ?_ | refine oZ rfl rfl rfl ?_ | refine oIf rfl rfl rfl (by omega) ?_) <;> (try conv => whnf))
                        all_goals exact ⟨i - 1, ⟨by omega, by omega⟩, by omega, canon_auto (by rw [show i - 1 + 1 = i by omega, s1, s2, s3]; kernel_rfl)⟩
                    · rw [if_pos n2] at s2
                      by_cases n3 : i > (pk l : Nat) ∧ 2 * y.getD i.toNat 0 ≤ m
                      · rw [if_pos n3] at s3
                        repeat' ((first | refine oP rfl ?_ | refine rP rfl (fun _ z => z) ?_ | (refine kO 1 rfl ?_; first | refine rSub rfl rfl rfl (by omega) ?_ | refine rMul rfl rfl rfl (by omega) ?_ | refine rG (fun _ z => z) ?_) | (refine kO 3 rfl ?_; first | refine rLdb rfl rfl rfl rfl rfl rfl rfl ?_ | refine rLdi rfl rfl rfl rfl rfl rfl (by omega) ?_) | (refine kO 5 rfl ?_; refine rIdo rfl rfl rfl rfl rfl rfl rfl rfl (by omega) ?_) | refine oN ?_ | refine aS ?_ | refine aR ?_ | refine aK ?_ | refine aB ?_ | refine aC rfl ?_ | refine bPt (by omega) ?_ | refine oY rfl rfl rfl ?_ | refine oIt rfl rfl rfl (by omega) ?_) <;> (try conv => whnf))
                        all_goals (exfalso; omega)
                      · rw [if_neg n3] at s3
                        repeat' ((first | refine oP rfl ?_ | refine rP rfl (fun _ z => z) ?_ | (refine kO 1 rfl ?_; first | refine rSub rfl rfl rfl (by omega) ?_ | refine rMul rfl rfl rfl (by omega) ?_ | refine rG (fun _ z => z) ?_) | (refine kO 3 rfl ?_; first | refine rLdb rfl rfl rfl rfl rfl rfl rfl ?_ | refine rLdi rfl rfl rfl rfl rfl rfl (by omega) ?_) | (refine kO 5 rfl ?_; refine rIdo rfl rfl rfl rfl rfl rfl rfl rfl (by omega) ?_) | refine oN ?_ | refine aS ?_ | refine aR ?_ | refine aK ?_ | refine aB ?_ | refine aC rfl ?_ | refine bPt (by omega) ?_ | refine oY rfl rfl rfl ?_ | refine oIt rfl rfl rfl (by omega) ?_) <;> (try conv => whnf))
                        all_goals (exfalso; omega)
                · obtain rfl : i = -1 := by omega
                  obtain ⟨n1, n2, n3, n4⟩ := en
                  rw [show max ((-1 : Int) + 1).toNat (pk l + 1) = pk l + 1 by simp]
                  show Awp _ _ ⟨[_, _, _, (13, vI (fF (lv 3 m) y 0)), (14, vI (fF (lv 9 m) y 0)), _, _], _, _⟩ _ _ _
                  generalize fF (lv 3 m) y 0 = A at *
                  generalize fF (lv 9 m) y 0 = B at *
                  generalize fF (hfm m) y (pk l + 1) = D at *
                  repeat ((first | refine oP rfl ?_ | refine rP rfl (fun _ z => z) ?_ | (refine kO 1 rfl ?_; refine rG (fun _ z => z) ?_) | (refine kO 3 rfl ?_; refine rLdb rfl rfl rfl rfl rfl rfl rfl ?_) | (refine kO 7 rfl ?_; refine rG (fun _ z => ⟨_, within_p _ _ _, z⟩) ?_) | refine oN ?_ | refine aS ?_ | refine aR ?_ | refine aX ?_ | refine aT ?_ | refine aC rfl ?_ | refine bF ?_ | refine oY rfl rfl rfl ?_ | refine oIt rfl rfl rfl (by omega) ?_); (try conv => whnf))
                  exact res_bo (decide_eq_true (by omega))
          · rw [if_neg hf] at s2
            have hz : fgErr l e = 21 ∨ fgErr l e = 12 := by
              unfold fgErr at hf ⊢
              repeat' split
              all_goals omega
            rcases hz with hz | hz
            · rw [hz] at s2
              refine Sat_of_awp (fn := f4) cx_ok (by kernel_rfl) (by kernel_rfl) rfl (by kernel_rfl) (Nat.le_of_ble_eq_true rfl) ?_
              repeat ((first | refine oP rfl ?_ | refine rP rfl (fun _ z => z) ?_ | (refine kO 1 rfl ?_; refine rG (fun _ z => z) ?_) | (refine kO 2 rfl ?_; refine rG (fun _ z => z) ?_) | (refine kO 3 rfl ?_; first | refine rLdb rfl rfl rfl rfl rfl rfl rfl ?_ | refine rG (fun _ z => z) ?_) | (refine kO 4 rfl ?_; refine rG (fun _ z => z) ?_) | (refine kO 7 rfl ?_; first | refine rG (fun _ z => ⟨_, awake8_sat, z⟩) ?_ | refine rG (fun _ z => ⟨_, w2, z⟩) ?_ | refine rG (fun _ z => ⟨_, s1, z⟩) ?_ | refine rG (fun _ z => ⟨_, c1, z⟩) ?_ | refine rG (fun _ z => ⟨_, c2, z⟩) ?_ | refine rG (fun _ z => ⟨_, s2, z⟩) ?_) | (refine kO 6 rfl ?_; refine rLen rfl rfl rfl rfl rfl rfl ?_) | refine oN ?_ | refine aS ?_ | refine aR ?_ | refine aK ?_ | refine aT ?_ | refine aC rfl ?_ | refine bT ?_ | refine bF ?_ | refine bPf (by omega) ?_ | refine oY rfl rfl rfl ?_ | refine oZ rfl rfl rfl ?_ | refine oUf rfl rfl rfl (by omega) ?_ | refine dI (by kernel_rfl) ?_); (try conv => whnf))
              (rfl)
            · rw [hz] at s2
              refine Sat_of_awp (fn := f4) cx_ok (by kernel_rfl) (by kernel_rfl) rfl (by kernel_rfl) (Nat.le_of_ble_eq_true rfl) ?_
              repeat ((first | refine oP rfl ?_ | refine rP rfl (fun _ z => z) ?_ | (refine kO 1 rfl ?_; refine rG (fun _ z => z) ?_) | (refine kO 2 rfl ?_; refine rG (fun _ z => z) ?_) | (refine kO 3 rfl ?_; first | refine rLdb rfl rfl rfl rfl rfl rfl rfl ?_ | refine rG (fun _ z => z) ?_) | (refine kO 4 rfl ?_; refine rG (fun _ z => z) ?_) | (refine kO 7 rfl ?_; first | refine rG (fun _ z => ⟨_, awake8_sat, z⟩) ?_ | refine rG (fun _ z => ⟨_, w2, z⟩) ?_ | refine rG (fun _ z => ⟨_, s1, z⟩) ?_ | refine rG (fun _ z => ⟨_, c1, z⟩) ?_ | refine rG (fun _ z => ⟨_, c2, z⟩) ?_ | refine rG (fun _ z => ⟨_, s2, z⟩) ?_) | (refine kO 6 rfl ?_; refine rLen rfl rfl rfl rfl rfl rfl ?_) | refine oN ?_ | refine aS ?_ | refine aR ?_ | refine aK ?_ | refine aT ?_ | refine aC rfl ?_ | refine bT ?_ | refine bF ?_ | refine bPf (by omega) ?_ | refine oY rfl rfl rfl ?_ | refine oUf rfl rfl rfl (by omega) ?_ | refine dI (by kernel_rfl) ?_); (try conv => whnf))
              (rfl)
    · generalize bothErr e q ch st l = z at *
      refine Sat_of_awp (fn := f4) cx_ok (by kernel_rfl) (by kernel_rfl) rfl (by kernel_rfl) (Nat.le_of_ble_eq_true rfl) ?_
      repeat ((first | refine oP rfl ?_ | refine rP rfl (fun _ z => z) ?_ | (refine kO 1 rfl ?_; refine rG (fun _ z => z) ?_) | (refine kO 2 rfl ?_; refine rG (fun _ z => z) ?_) | (refine kO 3 rfl ?_; refine rG (fun _ z => z) ?_) | (refine kO 7 rfl ?_; first | refine rG (fun _ z => ⟨_, awake8_sat, z⟩) ?_ | refine rG (fun _ z => ⟨_, w2, z⟩) ?_ | refine rG (fun _ z => ⟨_, s1, z⟩) ?_) | refine oN ?_ | refine aS ?_ | refine aR ?_ | refine aK ?_ | refine aT ?_ | refine aC rfl ?_ | refine bT ?_ | refine bF ?_ | refine oY rfl rfl rfl ?_ | refine oZ rfl rfl rfl ?_ | refine oUt rfl rfl rfl (by omega) ?_ | refine oUf rfl rfl rfl (by omega) ?_); (try conv => whnf))
      (done)
  · refine Sat_of_awp (fn := f4) cx_ok (by kernel_rfl) (by kernel_rfl) rfl (by kernel_rfl) (Nat.le_of_ble_eq_true rfl) ?_
    repeat ((first | refine oP rfl ?_ | refine rP rfl (fun _ z => z) ?_ | (refine kO 2 rfl ?_; refine rG (fun _ z => z) ?_) | (refine kO 3 rfl ?_; refine rG (fun _ z => z) ?_) | (refine kO 7 rfl ?_; first | refine rG (fun _ z => ⟨_, awake8_sat, z⟩) ?_ | refine rG (fun _ z => ⟨_, w2, z⟩) ?_) | refine oN ?_ | refine aS ?_ | refine aR ?_ | refine aK ?_ | refine aT ?_ | refine aC rfl ?_ | refine bT ?_ | refine bF ?_ | refine oZ rfl rfl rfl ?_ | refine oUt rfl rfl rfl (by omega) ?_); (try conv => whnf))
    (done)
end Go.Proofs.Tryd
