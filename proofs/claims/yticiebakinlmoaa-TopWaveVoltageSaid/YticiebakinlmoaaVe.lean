/- Parts of the proof, joined. -/
import Derived.Test.YticiebakinlmoaaVp
import Derived.Test.YticiebakinlmoaaVt
import Derived.Test.YticiebakinlmoaaVb
import Derived.Test.YticiebakinlmoaaM
namespace Go.Proofs.Try
open Go.Fw Go.IntWalk Go.Plain
set_option maxRecDepth 100000
set_option maxHeartbeats 8000000
theorem fgErr_zero {l : List Int} {e : Int} (h : fgErr l e = 0) : 0 < pkV l - e ∧ 0 ≤ t30h l e ∧ 0 ≤ t90h l e ∧ 0 ≤ hfh l e := by
  unfold fgErr at h
  repeat' split at h
  all_goals omega
theorem fg_ok {l : List Int} {e : Int} (h1 : 3 ≤ l.length) (h2 : l.length ≤ 64) (hA : AllIn l (-4096) 4096) (he : 0 ≤ e ∧ e ≤ 100) (h : fgErr l e = 0) :
    (1 ≤ pkV l - e ∧ pkV l + e ≤ 4196) ∧ pk l < l.length ∧ (0 ≤ t30l l e ∧ t30l l e ≤ t30h l e ∧ t30h l e ≤ 63) ∧ (0 ≤ t90l l e ∧ t90l l e ≤ t90h l e ∧ t90h l e ≤ 63) ∧ (0 ≤ hfl l e ∧ hfl l e ≤ hfh l e ∧ hfh l e ≤ 63) ∧ figErr (pk l : Nat) (pkV l - e) (pkV l + e) (t30l l e) (t30h l e) (t90l l e) (t90h l e) (hfl l e) (hfh l e) = 0 := by
  obtain ⟨k1, k2, k3, k4⟩ := fgErr_zero h
  have hv := pkV_in (by omega) hA
  have hp : pk l < l.length := pkT_lt (by omega)
  have b1 := fF_bound (lvHi e 3 (pkV l + e)) l (Nat.zero_le _)
  have b2 := fF_bound (lvHi e 9 (pkV l + e)) l (Nat.zero_le _)
  have b3 := fF_bound (hfHi e (pkV l - e)) l (show pk l + 1 ≤ l.length by omega)
  have m1 := fF_le (p := lvHi e 3 (pkV l + e)) (q := lvLo e 3 (pkV l - e)) (l := l) (l' := l) (a := 0) rfl (Nat.zero_le _) (fun j _ _ hj => by simp only [lvHi, lvLo, decide_eq_true_eq] at *; omega) k2
  have m2 := fF_le (p := lvHi e 9 (pkV l + e)) (q := lvLo e 9 (pkV l - e)) (l := l) (l' := l) (a := 0) rfl (Nat.zero_le _) (fun j _ _ hj => by simp only [lvHi, lvLo, decide_eq_true_eq] at *; omega) k3
  have m3 := fF_le (p := hfHi e (pkV l - e)) (q := hfLo e (pkV l + e)) (l := l) (l' := l) (a := pk l + 1) rfl (by omega) (fun j _ _ hj => by simp only [hfHi, hfLo, decide_eq_true_eq] at *; omega) k4
  have c1 : 0 ≤ t30l l e ∧ t30l l e ≤ t30h l e := m1
  have c2 : 0 ≤ t90l l e ∧ t90l l e ≤ t90h l e := m2
  have c3 : 0 ≤ hfl l e ∧ hfl l e ≤ hfh l e := m3
  have d1 : -1 ≤ t30h l e ∧ t30h l e < l.length := b1
  have d2 : -1 ≤ t90h l e ∧ t90h l e < l.length := b2
  have d3 : -1 ≤ hfh l e ∧ hfh l e < l.length := b3
  refine ⟨by omega, hp, by omega, by omega, by omega, ?_⟩
  unfold figErr
  rw [if_pos (by omega), if_pos (by omega)]
abbrev bFG (l : List Int) (e : Int) : Option Blk := some (.box 38 [.st (J (pk l : Nat)), .st (J (pkV l - e)), .st (J (pkV l + e)), .st (J (t30l l e)), .st (J (t30h l e)), .st (J (t90l l e)), .st (J (t90h l e)), .st (J (hfl l e)), .st (J (hfh l e))])
abbrev lv (t m : Int) : Int → Bool := fun n => decide (10 * n ≥ t * m)
abbrev hfm (m : Int) : Int → Bool := fun n => decide (2 * n ≤ m)
theorem mx_step (l : List Int) (i : Nat) : (if l.getD i 0 > l.getD (pkT l i) 0 then l.getD i 0 else l.getD (pkT l i) 0) = l.getD (pkT l (i + 1)) 0 := by
  show _ = l.getD (if l.getD i 0 > l.getD (pkT l i) 0 then i else pkT l i) 0
  split <;> rfl
/-- What is asked of true samples. -/
theorem enclosed {l y : List Int} {e : Int} (h1 : 3 ≤ l.length) (h2 : l.length ≤ 64) (hA : AllIn l (-4096) 4096) (he : 0 ≤ e ∧ e ≤ 100) (h : fgErr l e = 0) (hl : l.length = y.length) (hn : ∀ j, j < l.length → l.getD j 0 - e ≤ y.getD j 0 ∧ y.getD j 0 ≤ l.getD j 0 + e) :
    (pkV l - e ≤ pkV y ∧ pkV y ≤ pkV l + e) ∧ (t30l l e ≤ fF (lv 3 (pkV y)) y 0 ∧ fF (lv 3 (pkV y)) y 0 ≤ t30h l e) ∧ (t90l l e ≤ fF (lv 9 (pkV y)) y 0 ∧ fF (lv 9 (pkV y)) y 0 ≤ t90h l e) ∧ hfl l e ≤ fF (hfm (pkV y)) y (pk l + 1) ∧ fF (hfm (pkV y)) y (pk l + 1) ≤ hfh l e := by
  obtain ⟨k1, k2, k3, k4⟩ := fgErr_zero h
  have hv := pkV_near hl (by omega) hn
  have hp : pk l < l.length := pkT_lt (by omega)
  have m1 := fF_le (p := lvHi e 3 (pkV l + e)) (q := lv 3 (pkV y)) (l := l) (l' := y) (a := 0) hl (Nat.zero_le _) (fun j _ hj2 hj => by have := hn j hj2; simp only [lvHi, lv, decide_eq_true_eq] at *; omega) k2
  have n1 := fF_le (p := lv 3 (pkV y)) (q := lvLo e 3 (pkV l - e)) (l := y) (l' := l) (a := 0) hl.symm (Nat.zero_le _) (fun j _ hj2 hj => by have := hn j (by omega); simp only [lvLo, lv, decide_eq_true_eq] at *; omega) m1.1
  have m2 := fF_le (p := lvHi e 9 (pkV l + e)) (q := lv 9 (pkV y)) (l := l) (l' := y) (a := 0) hl (Nat.zero_le _) (fun j _ hj2 hj => by have := hn j hj2; simp only [lvHi, lv, decide_eq_true_eq] at *; omega) k3
  have n2 := fF_le (p := lv 9 (pkV y)) (q := lvLo e 9 (pkV l - e)) (l := y) (l' := l) (a := 0) hl.symm (Nat.zero_le _) (fun j _ hj2 hj => by have := hn j (by omega); simp only [lvLo, lv, decide_eq_true_eq] at *; omega) m2.1
  have m3 := fF_le (p := hfHi e (pkV l - e)) (q := hfm (pkV y)) (l := l) (l' := y) (a := pk l + 1) hl (by omega) (fun j _ hj2 hj => by have := hn j hj2; simp only [hfHi, hfm, decide_eq_true_eq] at *; omega) k4
  have n3 := fF_le (p := hfm (pkV y)) (q := hfLo e (pkV l + e)) (l := y) (l' := l) (a := pk l + 1) hl.symm (by omega) (fun j _ hj2 hj => by have := hn j (by omega); simp only [hfLo, hfm, decide_eq_true_eq] at *; omega) m3.1
  exact ⟨hv, ⟨n1.2, m1.2⟩, ⟨n2.2, m2.2⟩, n3.2, m3.2⟩
end Go.Proofs.Try
