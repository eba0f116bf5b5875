/- Parts of the proof, joined. -/
import Derived.Test.YtggfcjiahhjcnabGreatDoorWa
import Derived.Test.YtggfcjiahhjcnabGreatDoorM
import Derived.Test.YtggfcjiahhjcnabGreatDoorWb
namespace Go.Proofs.Tryz
open Go.Fw Go.IntWalk Go.Plain
set_option maxRecDepth 100000
set_option maxHeartbeats 8000000
abbrev Wd (s : Int) (l : List Int) : SV := (true, [J s, .ints l])
/-- A number of any size, as the references hold it. -/
abbrev wd (x : Int) : SV := Wd x.sign (digs x.natAbs)
end Go.Proofs.Tryz

namespace Go.Proofs.Tryz
open Go.Fw Go.IntWalk Go.Plain
set_option maxRecDepth 100000
set_option maxHeartbeats 8000000
end Go.Proofs.Tryz

namespace Go.Proofs.Tryz
open Go.Fw Go.IntWalk Go.Plain
set_option maxRecDepth 100000
set_option maxHeartbeats 8000000
/-- A number of at most k digits. -/
def Sz (k : Nat) (x : Int) : Prop := (digs x.natAbs).length ≤ k
theorem sz_of {k : Nat} {x : Int} (h : (x.natAbs : Int) < pw k) : Sz k x := digs_len_le h
theorem sz_lt {k : Nat} {x : Int} (h : Sz k x) : (x.natAbs : Int) < pw k := by
  have h1 := dval_lt (dg_digs x.natAbs)
  rw [dval_digs] at h1
  have h2 := pw_mono h
  omega
theorem Sz.mono {k m : Nat} {x : Int} (h : Sz k x) (hm : k ≤ m) : Sz m x := Nat.le_trans h hm
theorem Sz.neg {k : Nat} {x : Int} (h : Sz k x) : Sz k (-x) := by unfold Sz at *; rw [Int.natAbs_neg]; exact h
theorem Sz.add {k : Nat} {x y : Int} (hx : Sz k x) (hy : Sz k y) : Sz (k + 1) (x + y) := by
  have h1 := sz_lt hx; have h2 := sz_lt hy
  refine sz_of ?_
  rw [pw_succ]; have := pw_pos k; omega
theorem Sz.mul {k m : Nat} {x y : Int} (hx : Sz k x) (hy : Sz m y) : Sz (k + m) (x * y) := by
  have h1 := sz_lt hx; have h2 := sz_lt hy
  refine sz_of ?_
  rw [Int.natAbs_mul, show pw (k + m) = pw k * pw m from Int.pow_add _ _ _]
  have h3 := Int.mul_lt_mul_of_pos_right h1 (pw_pos m)
  have h4 : (x.natAbs : Int) * y.natAbs ≤ x.natAbs * pw m := Int.mul_le_mul_of_nonneg_left (by omega) (by omega)
  push_cast; omega
theorem sign_facts (x : Int) : (x.sign = 0 ↔ x = 0) ∧ (x.sign = 1 ↔ 0 < x) ∧ (x.sign = -1 ↔ x < 0) ∧ (x.sign = 0 ∨ x.sign = 1 ∨ x.sign = -1) := by
  rcases Int.lt_trichotomy x 0 with h | h | h
  · rw [Int.sign_eq_neg_one_of_neg h]; omega
  · subst h; simp
  · rw [Int.sign_eq_one_of_pos h]; omega
theorem cmpN_facts (x y : Nat) : (cmpN x y > 0 ↔ y < x) ∧ (cmpN x y = 0 ↔ x = y) := by
  unfold cmpN; (repeat' split) <;> omega
end Go.Proofs.Tryz

namespace Go.Proofs.Tryz
open Go.Fw Go.IntWalk Go.Plain
set_option maxRecDepth 100000
set_option maxHeartbeats 8000000
end Go.Proofs.Tryz

namespace Go.Proofs.Tryz
open Go.Fw Go.IntWalk Go.Plain
set_option maxRecDepth 100000
set_option maxHeartbeats 8000000
theorem sz_int {n : Int} (h : -9223372036854775808 ≤ n ∧ n ≤ 9223372036854775807) : Sz 3 n := sz_of (by
  have : pw 3 = 1000000000000000000000000000 := by decide
  rw [this]; omega)
theorem canon_self {l : List Int} (h : Canon l) : l = digs (dval l).toNat := canon_eq h
end Go.Proofs.Tryz

namespace Go.Proofs.Tryz
open Go.Fw Go.IntWalk Go.Plain
set_option maxRecDepth 100000
set_option maxHeartbeats 8000000
theorem Sz.le {k : Nat} {x y : Int} (h : Sz k x) (hy : y.natAbs ≤ x.natAbs) : Sz k y := sz_of (by have := sz_lt h; omega)
/-- A fraction of numbers of any size. -/
abbrev rt (n d : Int) : SV := (true, [J n.sign, .ints (digs n.natAbs), J d.sign, .ints (digs d.natAbs)])
end Go.Proofs.Tryz
