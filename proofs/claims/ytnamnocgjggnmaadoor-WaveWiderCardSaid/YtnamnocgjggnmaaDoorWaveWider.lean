/- Parts of the proof, joined. -/
import Derived.Test.YtnamnocgjggnmaaDoorVe
import Derived.Test.YtnamnocgjggnmaaDoorVc
import Derived.Test.YtnamnocgjggnmaaDoorVd
import Derived.Test.YtnamnocgjggnmaaDoorTie
import Derived.Test.YtnamnocgjggnmaaDoorCards
namespace Go.Proofs.Tryd
open Go.Fw Go.IntWalk Go.Plain
set_option maxRecDepth 100000
set_option maxHeartbeats 8000000
theorem inside_sat (a b c d : Int) : Sat cx.P cx.gl 51 [F2 a b, F2 c d] (.one (Bo (decide (c ≤ a ∧ b ≤ d)))) := by
  refine Sat_of_awp (fn := f51) cx_ok (by kernel_rfl) (by kernel_rfl) rfl (by kernel_rfl) (Nat.le_of_ble_eq_true rfl) ?_
  repeat' ((first | refine oP rfl ?_ | refine rP rfl (fun _ z => z) ?_ | (refine kO 1 rfl ?_; refine rG (fun _ z => z) ?_) | (refine kO 3 rfl ?_; refine rLdb rfl rfl rfl rfl rfl rfl rfl ?_) | refine oN ?_ | refine aS ?_ | refine aR ?_ | refine aT ?_ | refine oY rfl rfl rfl ?_ | refine oZ rfl rfl rfl ?_ | refine opsA_ifp rfl rfl rfl (fun h => ?_) (fun h => ?_)) <;> (try conv => whnf))
  · exact res_bo (by simp [h])
  · exact res_bo (by simp [h])
theorem rulesErr_wide {e e' : Int} {q : Sp} {ch : List Sp} (h : rulesErr e q ch = 0) (he : 0 ≤ e' ∧ e' ≤ 100) : rulesErr e' q ch = 0 := by
  have h1 := (rulesErr_zero h).1
  unfold rulesErr at h ⊢
  rw [if_pos h1] at h
  rw [if_pos he]; exact h
theorem wider {l : List Int} {e e' : Int} (h1 : 3 ≤ l.length) (h2 : l.length ≤ 64) (_hA : AllIn l (-4096) 4096) (he : 0 ≤ e ∧ e ≤ e') (h : fgErr l e' = 0) :
    fgErr l e = 0 ∧ (t30l l e' ≤ t30l l e ∧ t30h l e ≤ t30h l e') ∧ (t90l l e' ≤ t90l l e ∧ t90h l e ≤ t90h l e') ∧ hfl l e' ≤ hfl l e ∧ hfh l e ≤ hfh l e' := by
  obtain ⟨k1, k2, k3, k4⟩ := fgErr_zero h
  have hp : pk l < l.length := pkT_lt (by omega)
  have m1 := fF_le (p := lvHi e' 3 (pkV l + e')) (q := lvHi e 3 (pkV l + e)) (l := l) (l' := l) (a := 0) rfl (Nat.zero_le _) (fun j _ _ hj => by simp only [lvHi, decide_eq_true_eq] at *; omega) k2
  have m2 := fF_le (p := lvHi e' 9 (pkV l + e')) (q := lvHi e 9 (pkV l + e)) (l := l) (l' := l) (a := 0) rfl (Nat.zero_le _) (fun j _ _ hj => by simp only [lvHi, decide_eq_true_eq] at *; omega) k3
  have m3 := fF_le (p := hfHi e' (pkV l - e')) (q := hfHi e (pkV l - e)) (l := l) (l' := l) (a := pk l + 1) rfl (by omega) (fun j _ _ hj => by simp only [hfHi, decide_eq_true_eq] at *; omega) k4
  have f1 := fF_le (p := lvHi e 3 (pkV l + e)) (q := lvLo e 3 (pkV l - e)) (l := l) (l' := l) (a := 0) rfl (Nat.zero_le _) (fun j _ _ hj => by simp only [lvHi, lvLo, decide_eq_true_eq] at *; omega) m1.1
  have f2 := fF_le (p := lvHi e 9 (pkV l + e)) (q := lvLo e 9 (pkV l - e)) (l := l) (l' := l) (a := 0) rfl (Nat.zero_le _) (fun j _ _ hj => by simp only [lvHi, lvLo, decide_eq_true_eq] at *; omega) m2.1
  have f3 := fF_le (p := hfHi e (pkV l - e)) (q := hfLo e (pkV l + e)) (l := l) (l' := l) (a := pk l + 1) rfl (by omega) (fun j _ _ hj => by simp only [hfHi, hfLo, decide_eq_true_eq] at *; omega) m3.1
  have n1 := fF_le (p := lvLo e 3 (pkV l - e)) (q := lvLo e' 3 (pkV l - e')) (l := l) (l' := l) (a := 0) rfl (Nat.zero_le _) (fun j _ _ hj => by simp only [lvLo, decide_eq_true_eq] at *; omega) f1.1
  have n2 := fF_le (p := lvLo e 9 (pkV l - e)) (q := lvLo e' 9 (pkV l - e')) (l := l) (l' := l) (a := 0) rfl (Nat.zero_le _) (fun j _ _ hj => by simp only [lvLo, decide_eq_true_eq] at *; omega) f2.1
  have n3 := fF_le (p := hfLo e (pkV l + e)) (q := hfLo e' (pkV l + e')) (l := l) (l' := l) (a := pk l + 1) rfl (by omega) (fun j _ _ hj => by simp only [hfLo, decide_eq_true_eq] at *; omega) f3.1
  have g1 : 0 ≤ t30h l e := m1.1
  have g2 : 0 ≤ t90h l e := m2.1
  have g3 : 0 ≤ hfh l e := m3.1
  refine ⟨?_, ⟨n1.2, m1.2⟩, ⟨n2.2, m2.2⟩, n3.2, m3.2⟩
  unfold fgErr
  rw [if_neg (by omega), if_neg (by omega)]
theorem fl_mono {x y d : Int} (hd : 0 < d) (h : x ≤ y) : x / d ≤ y / d := Int.ediv_le_ediv hd h
theorem ce_mono {x y d : Int} (hd : 0 < d) (h : x ≤ y) : -(-x / d) ≤ -(-y / d) := by
  have := Int.ediv_le_ediv hd (show -y ≤ -x by omega)
  omega
theorem ms_mono {x y s : Int} (hs : 0 ≤ s) (h : x ≤ y) : x * s ≤ y * s := Int.mul_le_mul_of_nonneg_right h hs
theorem waveWider_sat (e : Int) (q : Sp) (ch : List Sp) (st : Int) (l : List Int) (m : Int) (hq : SpI q) (hch : ∀ s ∈ ch, SpI s) (hl : l.length ≤ maxLen) : Sat cx.P cx.gl 10 [Ru e q ch, Rc st l, I m] (.one (Bo true)) := by
  have w2 := fewFactors_sat e q ch
  have s1 := bothErr_sat e q ch st l hq hch hl
  by_cases h2 : ch.length ≤ 6
  · by_cases h0 : bothErr e q ch st l = 0
    · rw [h0] at s1
      obtain ⟨g1, g2⟩ := bothErr_zero h0
      obtain ⟨he, _⟩ := rulesErr_zero g1
      obtain ⟨hst, k1, k2, hA⟩ := recErr_zero g2
      by_cases hm : 0 ≤ m ∧ m ≤ 100 - e
      · have c1 := copyRules_sat e q ch (by omega)
        have c2 := copyRecord_sat st l (by omega)
        have c3 := copyRules_sat (e + m) q ch (by omega)
        have s2 := figuresOf_sat e q ch st l hq hch (by omega) hl
        have s3 := figuresOf_sat (e + m) q ch st l hq hch (by omega) hl
        have h0' : bothErr (e + m) q ch st l = 0 := by
          unfold bothErr
          rw [rulesErr_wide g1 (by omega), if_neg (by omega)]; exact g2
        have hfe : figE e q ch st l = fgErr l e := by unfold figE; rw [if_neg (by omega)]
        have hfe' : figE (e + m) q ch st l = fgErr l (e + m) := by unfold figE; rw [if_neg (by omega)]
        rw [hfe] at s2
        rw [hfe'] at s3
        by_cases hf' : fgErr l (e + m) = 0
        · obtain ⟨hf, r1, r2, r3⟩ := wider (e := e) (e' := e + m) k1 k2 hA (by omega) hf'
          rw [if_pos hf] at s2
          rw [if_pos hf'] at s3
          obtain ⟨j1, j2, j3, j4, j5, j6⟩ := fg_ok k1 k2 hA he hf
          obtain ⟨i1, i2, i3, i4, i5, i6⟩ := fg_ok (e := e + m) k1 k2 hA (by omega) hf'
          have s4 := refFigErr_sat (pk l : Nat) (pkV l - e) (pkV l + e) (t30l l e) (t30h l e) (t90l l e) (t90h l e) (hfl l e) (hfh l e)
          have s5 := refFigErr_sat (pk l : Nat) (pkV l - (e + m)) (pkV l + (e + m)) (t30l l (e + m)) (t30h l (e + m)) (t90l l (e + m)) (t90h l (e + m)) (hfl l (e + m)) (hfh l (e + m))
          rw [j6] at s4
          rw [i6] at s5
          have t1 := frontOf_sat (pk l : Nat) (pkV l - e) (pkV l + e) (t30l l e) (t30h l e) (t90l l e) (t90h l e) (hfl l e) (hfh l e) st
          have t2 := frontOf_sat (pk l : Nat) (pkV l - (e + m)) (pkV l + (e + m)) (t30l l (e + m)) (t30h l (e + m)) (t90l l (e + m)) (t90h l (e + m)) (hfl l (e + m)) (hfh l (e + m)) st
          have t3 := tailOf_sat (pk l : Nat) (pkV l - e) (pkV l + e) (t30l l e) (t30h l e) (t90l l e) (t90h l e) (hfl l e) (hfh l e) st
          have t4 := tailOf_sat (pk l : Nat) (pkV l - (e + m)) (pkV l + (e + m)) (t30l l (e + m)) (t30h l (e + m)) (t90l l (e + m)) (t90h l (e + m)) (hfl l (e + m)) (hfh l (e + m)) st
          have z1 : timeErr (pk l : Nat) (pkV l - e) (pkV l + e) (t30l l e) (t30h l e) (t90l l e) (t90h l e) (hfl l e) (hfh l e) st = 0 := by unfold timeErr; rw [j6, if_neg (by omega), if_pos hst]
          have z2 : timeErr (pk l : Nat) (pkV l - (e + m)) (pkV l + (e + m)) (t30l l (e + m)) (t30h l (e + m)) (t90l l (e + m)) (t90h l (e + m)) (hfl l (e + m)) (hfh l (e + m)) st = 0 := by unfold timeErr; rw [i6, if_neg (by omega), if_pos hst]
          rw [if_pos z1] at t1 t3
          rw [if_pos z2] at t2 t4
          have v1 := voltageOf_sat e q ch hq hch (by omega) (pk l : Nat) (pkV l - e) (pkV l + e) (t30l l e) (t30h l e) (t90l l e) (t90h l e) (hfl l e) (hfh l e)
          have v2 := voltageOf_sat e q ch hq hch (by omega) (pk l : Nat) (pkV l - (e + m)) (pkV l + (e + m)) (t30l l (e + m)) (t30h l (e + m)) (t90l l (e + m)) (t90h l (e + m)) (hfl l (e + m)) (hfh l (e + m))
          rw [j6] at v1
          rw [i6] at v2
          have o1 : frontLo (t30l l (e + m)) (t30h l (e + m)) (t90l l (e + m)) (t90h l (e + m)) st ≤ frontLo (t30l l e) (t30h l e) (t90l l e) (t90h l e) st := fl_mono (by omega) (ms_mono (by omega) (by omega))
          have o2 : frontHi (t30l l e) (t30h l e) (t90l l e) (t90h l e) st ≤ frontHi (t30l l (e + m)) (t30h l (e + m)) (t90l l (e + m)) (t90h l (e + m)) st := ce_mono (by omega) (ms_mono (by omega) (by omega))
          have o3 : tailLo (t30l l (e + m)) (t30h l (e + m)) (t90l l (e + m)) (t90h l (e + m)) (hfl l (e + m)) (hfh l (e + m)) st ≤ tailLo (t30l l e) (t30h l e) (t90l l e) (t90h l e) (hfl l e) (hfh l e) st := fl_mono (by omega) (ms_mono (by omega) (by omega))
          have o4 : tailHi (t30l l e) (t30h l e) (t90l l e) (t90h l e) (hfl l e) (hfh l e) st ≤ tailHi (t30l l (e + m)) (t30h l (e + m)) (t90l l (e + m)) (t90h l (e + m)) (hfl l (e + m)) (hfh l (e + m)) st := ce_mono (by omega) (ms_mono (by omega) (by omega))
          by_cases hs : scErr e q ch = 0
          · have hv : volErr e q ch 0 = 0 := by unfold volErr; rw [if_neg (by omega)]
            rw [hv, if_pos rfl] at v1 v2
            obtain ⟨_, _, hS⟩ := scErr_zero hs
            have o5 : volLo (pkV l - (e + m)) (scOf ch) ≤ volLo (pkV l - e) (scOf ch) := fl_mono (by omega) (ms_mono (by omega) (by omega))
            have o6 : volHi (pkV l + e) (scOf ch) ≤ volHi (pkV l + (e + m)) (scOf ch) := ce_mono (by omega) (ms_mono (by omega) (by omega))
            refine Sat_of_awp (fn := f10) cx_ok (by kernel_rfl) (by kernel_rfl) rfl (by kernel_rfl) (Nat.le_of_ble_eq_true rfl) ?_
            repeat ((first | refine oP rfl ?_ | refine rP rfl (fun _ z => z) ?_ | (refine kO 1 rfl ?_; first | refine rAdd rfl rfl rfl (by omega) ?_ | refine rSub rfl rfl rfl (by omega) ?_ | refine rG (fun _ z => z) ?_) | (refine kO 2 rfl ?_; refine rG (fun _ z => z) ?_) | (refine kO 3 rfl ?_; first | refine rLdb rfl rfl rfl rfl rfl rfl rfl ?_ | refine rG (fun _ z => z) ?_) | (refine kO 4 rfl ?_; refine rG (fun _ z => z) ?_) | (refine kO 7 rfl ?_; first | refine rG (fun _ z => ⟨_, awake8_sat, z⟩) ?_ | refine rG (fun _ z => ⟨_, w2, z⟩) ?_ | refine rG (fun _ z => ⟨_, s1, z⟩) ?_ | refine rG (fun _ z => ⟨_, within_p _ _ _, z⟩) ?_ | refine rG (fun _ z => ⟨_, c1, z⟩) ?_ | refine rG (fun _ z => ⟨_, c2, z⟩) ?_ | refine rG (fun _ z => ⟨_, c3, z⟩) ?_ | refine rG (fun _ z => ⟨_, s2, z⟩) ?_ | refine rG (fun _ z => ⟨_, s3, z⟩) ?_ | refine rG (fun _ z => ⟨_, s4, z⟩) ?_ | refine rG (fun _ z => ⟨_, s5, z⟩) ?_ | refine rG (fun _ z => ⟨_, inside_sat _ _ _ _, z⟩) ?_ | refine rG (fun _ z => ⟨_, t1, z⟩) ?_ | refine rG (fun _ z => ⟨_, t2, z⟩) ?_ | refine rG (fun _ z => ⟨_, t3, z⟩) ?_ | refine rG (fun _ z => ⟨_, t4, z⟩) ?_ | refine rG (fun _ z => ⟨_, v1, z⟩) ?_ | refine rG (fun _ z => ⟨_, v2, z⟩) ?_) | refine oN ?_ | refine aS ?_ | refine aR ?_ | refine aK ?_ | refine aT ?_ | refine aC rfl ?_ | refine bF ?_ | refine bPf (by omega) ?_ | refine oY rfl rfl rfl ?_ | refine oUf rfl rfl rfl (by omega) ?_ | refine dI (by kernel_rfl) ?_); (try conv => whnf))
            exact res_bo (decide_eq_true ⟨o5, o6⟩)
          · have hse : scErr e q ch = 8 := by
              unfold scErr at hs ⊢
              rw [if_neg (by omega)] at hs ⊢
              split at hs
              · exact absurd rfl hs
              · rename_i hh; rw [if_neg hh]
            have hv : volErr e q ch 0 = 8 := by unfold volErr; rw [if_pos hs]; exact hse
            rw [hv, if_neg (by omega)] at v1 v2
            refine Sat_of_awp (fn := f10) cx_ok (by kernel_rfl) (by kernel_rfl) rfl (by kernel_rfl) (Nat.le_of_ble_eq_true rfl) ?_
            repeat ((first | refine oP rfl ?_ | refine rP rfl (fun _ z => z) ?_ | (refine kO 1 rfl ?_; first | refine rAdd rfl rfl rfl (by omega) ?_ | refine rSub rfl rfl rfl (by omega) ?_ | refine rG (fun _ z => z) ?_) | (refine kO 2 rfl ?_; refine rG (fun _ z => z) ?_) | (refine kO 3 rfl ?_; first | refine rLdb rfl rfl rfl rfl rfl rfl rfl ?_ | refine rG (fun _ z => z) ?_) | (refine kO 4 rfl ?_; refine rG (fun _ z => z) ?_) | (refine kO 7 rfl ?_; first | refine rG (fun _ z => ⟨_, awake8_sat, z⟩) ?_ | refine rG (fun _ z => ⟨_, w2, z⟩) ?_ | refine rG (fun _ z => ⟨_, s1, z⟩) ?_ | refine rG (fun _ z => ⟨_, within_p _ _ _, z⟩) ?_ | refine rG (fun _ z => ⟨_, c1, z⟩) ?_ | refine rG (fun _ z => ⟨_, c2, z⟩) ?_ | refine rG (fun _ z => ⟨_, c3, z⟩) ?_ | refine rG (fun _ z => ⟨_, s2, z⟩) ?_ | refine rG (fun _ z => ⟨_, s3, z⟩) ?_ | refine rG (fun _ z => ⟨_, s4, z⟩) ?_ | refine rG (fun _ z => ⟨_, s5, z⟩) ?_ | refine rG (fun _ z => ⟨_, inside_sat _ _ _ _, z⟩) ?_ | refine rG (fun _ z => ⟨_, t1, z⟩) ?_ | refine rG (fun _ z => ⟨_, t2, z⟩) ?_ | refine rG (fun _ z => ⟨_, t3, z⟩) ?_ | refine rG (fun _ z => ⟨_, t4, z⟩) ?_ | refine rG (fun _ z => ⟨_, v1, z⟩) ?_ | refine rG (fun _ z => ⟨_, v2, z⟩) ?_) | refine oN ?_ | refine aS ?_ | refine aR ?_ | refine aK ?_ | refine aT ?_ | refine aC rfl ?_ | refine bF ?_ | refine bPf (by omega) ?_ | refine oY rfl rfl rfl ?_ | refine oZ rfl rfl rfl ?_ | refine oO rfl rfl rfl ?_ | refine oUf rfl rfl rfl (by omega) ?_ | refine dI (by kernel_rfl) ?_); (try conv => whnf))
            (done)
        · rw [if_neg hf'] at s3
          have fA : ∃ a b c d i j k m n v, (if fgErr l e = 0 then [FG l e, I 0] else [F9 0 0 0 0 0 0 0 0 0, I (fgErr l e)]) = [F9 a b c d i j k m n, I v] := by split <;> exact ⟨_, _, _, _, _, _, _, _, _, _, rfl⟩
          obtain ⟨a1, a2, a3, a4, a5, a6, a7, a8, a9, av, hA'⟩ := fA
          rw [hA'] at s2
          have hz : fgErr l (e + m) = 21 ∨ fgErr l (e + m) = 12 := by
            unfold fgErr at hf' ⊢
            repeat' split
            all_goals omega
          rcases hz with hz | hz
          · rw [hz] at s3
            refine Sat_of_awp (fn := f10) cx_ok (by kernel_rfl) (by kernel_rfl) rfl (by kernel_rfl) (Nat.le_of_ble_eq_true rfl) ?_
            repeat ((first | refine oP rfl ?_ | refine rP rfl (fun _ z => z) ?_ | (refine kO 1 rfl ?_; first | refine rAdd rfl rfl rfl (by omega) ?_ | refine rSub rfl rfl rfl (by omega) ?_ | refine rG (fun _ z => z) ?_) | (refine kO 2 rfl ?_; refine rG (fun _ z => z) ?_) | (refine kO 3 rfl ?_; first | refine rLdb rfl rfl rfl rfl rfl rfl rfl ?_ | refine rG (fun _ z => z) ?_) | (refine kO 4 rfl ?_; refine rG (fun _ z => z) ?_) | (refine kO 7 rfl ?_; first | refine rG (fun _ z => ⟨_, awake8_sat, z⟩) ?_ | refine rG (fun _ z => ⟨_, w2, z⟩) ?_ | refine rG (fun _ z => ⟨_, s1, z⟩) ?_ | refine rG (fun _ z => ⟨_, within_p _ _ _, z⟩) ?_ | refine rG (fun _ z => ⟨_, c1, z⟩) ?_ | refine rG (fun _ z => ⟨_, c2, z⟩) ?_ | refine rG (fun _ z => ⟨_, c3, z⟩) ?_ | refine rG (fun _ z => ⟨_, s2, z⟩) ?_ | refine rG (fun _ z => ⟨_, s3, z⟩) ?_) | refine oN ?_ | refine aS ?_ | refine aR ?_ | refine aK ?_ | refine aT ?_ | refine aC rfl ?_ | refine bT ?_ | refine bF ?_ | refine bPf (by omega) ?_ | refine oY rfl rfl rfl ?_ | refine oZ rfl rfl rfl ?_ | refine oUf rfl rfl rfl (by omega) ?_ | refine dI (by kernel_rfl) ?_); (try conv => whnf))
            (rfl)
          · rw [hz] at s3
            refine Sat_of_awp (fn := f10) cx_ok (by kernel_rfl) (by kernel_rfl) rfl (by kernel_rfl) (Nat.le_of_ble_eq_true rfl) ?_
            repeat ((first | refine oP rfl ?_ | refine rP rfl (fun _ z => z) ?_ | (refine kO 1 rfl ?_; first | refine rAdd rfl rfl rfl (by omega) ?_ | refine rSub rfl rfl rfl (by omega) ?_ | refine rG (fun _ z => z) ?_) | (refine kO 2 rfl ?_; refine rG (fun _ z => z) ?_) | (refine kO 3 rfl ?_; first | refine rLdb rfl rfl rfl rfl rfl rfl rfl ?_ | refine rG (fun _ z => z) ?_) | (refine kO 4 rfl ?_; refine rG (fun _ z => z) ?_) | (refine kO 7 rfl ?_; first | refine rG (fun _ z => ⟨_, awake8_sat, z⟩) ?_ | refine rG (fun _ z => ⟨_, w2, z⟩) ?_ | refine rG (fun _ z => ⟨_, s1, z⟩) ?_ | refine rG (fun _ z => ⟨_, within_p _ _ _, z⟩) ?_ | refine rG (fun _ z => ⟨_, c1, z⟩) ?_ | refine rG (fun _ z => ⟨_, c2, z⟩) ?_ | refine rG (fun _ z => ⟨_, c3, z⟩) ?_ | refine rG (fun _ z => ⟨_, s2, z⟩) ?_ | refine rG (fun _ z => ⟨_, s3, z⟩) ?_) | refine oN ?_ | refine aS ?_ | refine aR ?_ | refine aK ?_ | refine aT ?_ | refine aC rfl ?_ | refine bT ?_ | refine bF ?_ | refine bPf (by omega) ?_ | refine oY rfl rfl rfl ?_ | refine oUf rfl rfl rfl (by omega) ?_ | refine dI (by kernel_rfl) ?_); (try conv => whnf))
            (rfl)
      · refine Sat_of_awp (fn := f10) cx_ok (by kernel_rfl) (by kernel_rfl) rfl (by kernel_rfl) (Nat.le_of_ble_eq_true rfl) ?_
        repeat ((first | refine oP rfl ?_ | refine rP rfl (fun _ z => z) ?_ | (refine kO 1 rfl ?_; first | refine rSub rfl rfl rfl (by omega) ?_ | refine rG (fun _ z => z) ?_) | (refine kO 2 rfl ?_; refine rG (fun _ z => z) ?_) | (refine kO 3 rfl ?_; first | refine rLdb rfl rfl rfl rfl rfl rfl rfl ?_ | refine rG (fun _ z => z) ?_) | (refine kO 7 rfl ?_; first | refine rG (fun _ z => ⟨_, awake8_sat, z⟩) ?_ | refine rG (fun _ z => ⟨_, w2, z⟩) ?_ | refine rG (fun _ z => ⟨_, s1, z⟩) ?_ | refine rG (fun _ z => ⟨_, within_p _ _ _, z⟩) ?_) | refine oN ?_ | refine aS ?_ | refine aR ?_ | refine aK ?_ | refine aT ?_ | refine aC rfl ?_ | refine bF ?_ | refine bPt (by omega) ?_ | refine oY rfl rfl rfl ?_ | refine oUf rfl rfl rfl (by omega) ?_); (try conv => whnf))
        (done)
    · generalize bothErr e q ch st l = z at *
      refine Sat_of_awp (fn := f10) cx_ok (by kernel_rfl) (by kernel_rfl) rfl (by kernel_rfl) (Nat.le_of_ble_eq_true rfl) ?_
      repeat ((first | refine oP rfl ?_ | refine rP rfl (fun _ z => z) ?_ | (refine kO 1 rfl ?_; refine rG (fun _ z => z) ?_) | (refine kO 2 rfl ?_; refine rG (fun _ z => z) ?_) | (refine kO 3 rfl ?_; refine rG (fun _ z => z) ?_) | (refine kO 7 rfl ?_; first | refine rG (fun _ z => ⟨_, awake8_sat, z⟩) ?_ | refine rG (fun _ z => ⟨_, w2, z⟩) ?_ | refine rG (fun _ z => ⟨_, s1, z⟩) ?_) | refine oN ?_ | refine aS ?_ | refine aR ?_ | refine aK ?_ | refine aT ?_ | refine aC rfl ?_ | refine bT ?_ | refine bF ?_ | refine oY rfl rfl rfl ?_ | refine oZ rfl rfl rfl ?_ | refine oUt rfl rfl rfl (by omega) ?_ | refine oUf rfl rfl rfl (by omega) ?_); (try conv => whnf))
      (done)
  · refine Sat_of_awp (fn := f10) cx_ok (by kernel_rfl) (by kernel_rfl) rfl (by kernel_rfl) (Nat.le_of_ble_eq_true rfl) ?_
    repeat ((first | refine oP rfl ?_ | refine rP rfl (fun _ z => z) ?_ | (refine kO 2 rfl ?_; refine rG (fun _ z => z) ?_) | (refine kO 3 rfl ?_; refine rG (fun _ z => z) ?_) | (refine kO 7 rfl ?_; first | refine rG (fun _ z => ⟨_, awake8_sat, z⟩) ?_ | refine rG (fun _ z => ⟨_, w2, z⟩) ?_) | refine oN ?_ | refine aS ?_ | refine aR ?_ | refine aK ?_ | refine aT ?_ | refine aC rfl ?_ | refine bT ?_ | refine bF ?_ | refine oZ rfl rfl rfl ?_ | refine oUt rfl rfl rfl (by omega) ?_); (try conv => whnf))
    (done)
end Go.Proofs.Tryd

/-
  The law WaveWider of chapter 8 returns true for all rules, records and greater errors, and leaves its arguments as they were, where the variable never holds what the program's text lays.
-/
namespace Go.Proofs.YtnamnocgjggnmaaDoor.waveWider
open Go.Fw Go.ChangeShapes Go.WideShapes Go.ChangeAt Go.RowKit Go.Proofs.Tryd
set_option maxRecDepth 100000 in
theorem walk (xs : List SV) (h : FitL cx 5 Tryd.f10.params.toList xs) : Sat cx.P cx.gl 10 xs (.one (false, [.lit (.bool true)])) := by
  rw [Tryd.params10] at h
  obtain ⟨x, y, z, rfl, h1, h2, h3⟩ := fitL3 (t := 28) (u := 31) (v := 3) h
  obtain ⟨e, q, ch, rfl, hq, hch, _⟩ := fit_rules h1
  obtain ⟨st, l, rfl, hl, _⟩ := fit_record h2
  obtain ⟨m, rfl, _⟩ := fit_oneInt h3
  exact waveWider_sat e q ch st l m hq hch hl
set_option maxRecDepth 100000 in
theorem lifted (os : Os) (started : os.Started) (H : Type) (enc : TypeId × Value → H) :
    ReturnsInHanded {} Tryd.checked os 10 .any (fun w args => (Rows.waveWiderSpec.pre enc Tryd.prog Tryd.f10 [] false w args ∧ laidMetH Tryd.prog laidD w) ∧ sizedMet enc Tryd.prog Tryd.f10 (OpenSpec.ofChange Rows.waveWiderSpec) false w args)
      (Rows.waveWiderSpec.post enc Tryd.prog Tryd.f10 false true false false) := by
  refine returnsInHanded_of_change_and (C := Tryd.checked) (X := fun w _ => laidMetH Tryd.prog laidD w) (fun _ _ _ hh h => h.of_heap hh) own started (by kernel_rfl) Tryd.func10
    (ChangeSpec.witness_shaped (enc := enc) (C := Tryd.checked) (os := os) (X := fun w _ => laidMetH Tryd.prog laidD w) false (World.doorLaid Tryd.prog 400 os) #[.agg #[.int .i64 0, .int .i64 0, .int .i64 0, .int .i64 0, .int .i64 0, .slice none 0 0], .agg #[.int .i64 0, .slice none 0 0], .int .i64 0] 8 rfl (World.shaped_of_RefB (by kernel_rfl) (by kernel_rfl)) (by kernel_rfl) (by kernel_rfl) (by kernel_rfl) (door_met os _)) ?_
  intro W base args ds gs before hval hW _ _ hL _
  exact law_calls_gl (C := cx) (d := 5) cx_ok laidOut (by kernel_rfl) (by kernel_rfl) rfl (by kernel_rfl) rfl
    (fun ds hl => by
      rw [Tryd.params10] at hl
      match ds, hl with
      | [d1, d2, d3], _ => rfl) walk (glob_ok hL) hval hW
theorem over : Rows.WaveWiderSaid :=
  OpenClaim.holds_of_wide 10 Tryd.f10 rfl rfl rfl rfl rfl rfl rfl ⟨rfl, rfl, rfl, rfl, rfl⟩ rfl rfl rfl rfl rfl (by kernel_rfl) Tryd.func10 (by kernel_rfl)
    (of_decide_eq_true (by kernel_rfl)) (by unfold Func.isWrapper; first | (rw [if_pos (by decide +kernel)]; kernel_rfl) | (rw [if_neg (by decide +kernel)]; exact ⟨rfl, rfl⟩))
    (fun os started H enc _ => lifted os started H enc)
theorem proved : Rows.WaveWiderCardSaid :=
  Claim7.holds_tied_plain_at .later [] [.data] true (true, "a0ac937db1b87eb7c11dd0dc71315b0af60e3f8de940ef982570c982c7ff4971") false
    over (fun _ h => by cases h) (by kernel_rfl) (fun _ h => by cases h) waveWider_row_tie rfl ⟨rfl, rfl⟩ (by kernel_rfl) rfl
    (fun f fn hf hfn => by
      obtain rfl : f = 10 := Option.some.inj ((show Tryd.prog.funcNamed "buchholz/buchholzlaw08.WaveWider" = some 10 by kernel_rfl).symm.trans hf) |>.symm
      obtain rfl : fn = Tryd.f10 := (Option.some.inj (Tryd.func10.symm.trans hfn)).symm
      exact ⟨by kernel_rfl, fun j t ht => by
        have hall : (Tryd.f10.params.toList.all fun u => !Tryd.prog.wantsStandIn u) = true := by kernel_rfl
        have hm : t ∈ Tryd.f10.params.toList := by simpa using Array.mem_of_getElem? ht
        exact (show Tryd.prog.wantsStandIn t = false by simpa using List.all_eq_true.1 hall t hm)⟩)
    (by kernel_rfl)

end Go.Proofs.YtnamnocgjggnmaaDoor.waveWider
