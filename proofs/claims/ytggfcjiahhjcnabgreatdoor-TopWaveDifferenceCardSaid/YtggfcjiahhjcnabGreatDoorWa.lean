/- Parts of the proof, joined. -/
import Derived.Test.YtggfcjiahhjcnabGreatDoorCx
import Derived.Test.YtggfcjiahhjcnabGreatDoorFc
import Derived.IntWalk
import Derived.Test.YtggfcjiahhjcnabGreatDoorM
import Derived.Test.YtggfcjiahhjcnabGreatDoorFd
import Derived.KernelRfl
namespace Go.Proofs.Tryz
open Go.Fw Go.IntWalk
abbrev I (n : Int) : SV := (false, [.lit (.int .i64 n)])
abbrev Bo (b : Bool) : SV := (false, [.lit (.bool b)])
abbrev vI (n : Int) : Option DV := some (.val (false, [.st (.lit (.int .i64 n))]))
abbrev J (n : Int) : SC := .lit (.int .i64 n)
abbrev F2 (a b : Int) : SV := (true, [J a, J b])
abbrev F6 (a b c d e f : Int) : SV := (true, [J a, J b, J c, J d, J e, J f])
theorem ints_elem {l : List Int} {i : Nat} (h : i < l.length) : (SC.ints l).elem (i : Int).toNat = some [J l[i]] := by
  simp [SC.elem, h]
theorem res_i {a b : Int} (h : a = b) : Res.one (I a) = .one (I b) := by rw [h]
theorem res_bo {a b : Bool} (h : a = b) : Res.one (Bo a) = .one (Bo b) := by rw [h]
theorem res_f2 {a b c d : Int} (h : a = c) (h' : b = d) : Res.one (F2 a b) = .one (F2 c d) := by rw [h, h']
def inR (n : Int) : Prop := -9223372036854775807 ≤ n ∧ n ≤ 9223372036854775807
def inI (n : Int) : Prop := -9223372036854775808 ≤ n ∧ n ≤ 9223372036854775807
theorem inR.i {n : Int} (h : inR n) : inI n := ⟨by have := h.1; omega, h.2⟩
theorem inR.ne {n : Int} (h : inR n) : n ≠ -9223372036854775808 := by have := h.1; omega

theorem within_sat (n lo hi : Int) : Sat cx.P cx.gl 7 [I n, I lo, I hi] (.one (Bo (decide (lo ≤ n) && decide (n ≤ hi)))) := by
  refine Sat_of_awp (fn := f7) cx_ok (by kernel_rfl) (by kernel_rfl) rfl (by kernel_rfl) (Nat.le_of_ble_eq_true rfl) ?_
  repeat (first | refine oP rfl ?_ | (refine rG (fun _ h => h) ?_; conv => whnf) | (refine oN ?_; conv => whnf) | refine aS ?_ | (refine aR ?_; conv => whnf) | (refine aK ?_; conv => whnf) | (refine aX ?_; conv => whnf) | refine aB ?_ | (refine aT ?_; conv => whnf) | refine aC rfl ?_ | refine bT ?_ | refine bF ?_ | refine aL ?_ | refine aE ?_ | refine oY rfl rfl rfl ?_ | (refine oZ rfl rfl rfl ?_; conv => whnf) | (refine oO rfl rfl rfl ?_; conv => whnf) | (refine dI (by kernel_rfl) ?_; conv => whnf) | (refine rG (fun _ h => ⟨by decide, h⟩) ?_; conv => whnf))
  refine opsA_if rfl rfl rfl (fun h => ?_) (fun h => ?_) <;> (try conv => whnf) <;> (repeat (first | refine oP rfl ?_ | (refine rG (fun _ h => h) ?_; conv => whnf) | (refine oN ?_; conv => whnf) | refine aS ?_ | (refine aR ?_; conv => whnf) | (refine aK ?_; conv => whnf) | (refine aX ?_; conv => whnf) | refine aB ?_ | (refine aT ?_; conv => whnf) | refine aC rfl ?_ | refine bT ?_ | refine bF ?_ | refine aL ?_ | refine aE ?_ | refine oY rfl rfl rfl ?_ | (refine oZ rfl rfl rfl ?_; conv => whnf) | (refine oO rfl rfl rfl ?_; conv => whnf) | (refine dI (by kernel_rfl) ?_; conv => whnf) | (refine rG (fun _ h => ⟨by decide, h⟩) ?_; conv => whnf)))
  · simp [h, Bo]
  · simp [h, Bo]
theorem size_sat (n : Int) (h0 : -9223372036854775807 ≤ n) (h1 : n ≤ 9223372036854775807) : Sat cx.P cx.gl 117 [I n] (.one (I n.natAbs)) := by
  refine Sat_of_awp (fn := f117) cx_ok (by kernel_rfl) (by kernel_rfl) rfl (by kernel_rfl) (Nat.le_of_ble_eq_true rfl) ?_
  repeat (first | refine oP rfl ?_ | (refine rG (fun _ h => h) ?_; conv => whnf) | (refine oN ?_; conv => whnf) | refine aS ?_ | (refine aR ?_; conv => whnf) | (refine aK ?_; conv => whnf) | (refine aX ?_; conv => whnf) | refine aB ?_ | (refine aT ?_; conv => whnf) | refine aC rfl ?_ | refine bT ?_ | refine bF ?_ | refine aL ?_ | refine aE ?_ | refine oY rfl rfl rfl ?_ | (refine oZ rfl rfl rfl ?_; conv => whnf) | (refine oO rfl rfl rfl ?_; conv => whnf) | (refine dI (by kernel_rfl) ?_; conv => whnf) | (refine rG (fun _ h => ⟨by decide, h⟩) ?_; conv => whnf))
  have e : IntKind.i64.wrap (0 - n) = -n := by rw [i64_in _ (by omega)]; omega
  show Res.one (false, [SC.lit (Value.int .i64 (if IntKind.i64.wrap (0 - n) > n then IntKind.i64.wrap (0 - n) else n))]) = _
  rw [e]
  have : (if -n > n then -n else n) = n.natAbs := by split <;> omega
  rw [this]
theorem gcd_sat (a b : Int) (ha : inI a) (hb : inR b) (hab : a = -9223372036854775808 → b ≠ 0) : Sat cx.P cx.gl 99 [I a, I b] (.one (I (Int.gcd a b))) := by
  refine Sat_of_awp (fn := f99) cx_ok (by kernel_rfl) (by kernel_rfl) rfl (by kernel_rfl) (Nat.le_of_ble_eq_true rfl) ?_
  repeat (first | refine oP rfl ?_ | (refine rG (fun _ h => h) ?_; conv => whnf) | (refine oN ?_; conv => whnf) | refine aS ?_ | (refine aR ?_; conv => whnf) | (refine aK ?_; conv => whnf) | (refine aX ?_; conv => whnf) | refine aB ?_ | (refine aT ?_; conv => whnf) | refine aC rfl ?_ | refine bT ?_ | refine bF ?_ | refine aL ?_ | refine aE ?_ | refine oY rfl rfl rfl ?_ | (refine oZ rfl rfl rfl ?_; conv => whnf) | (refine oO rfl rfl rfl ?_; conv => whnf) | (refine dI (by kernel_rfl) ?_; conv => whnf) | (refine rG (fun _ h => ⟨by decide, h⟩) ?_; conv => whnf))
  refine loop_ind (ι := Int × Int) (fun p => Int.gcd p.1 p.2 = Int.gcd a b ∧ inI p.1 ∧ inR p.2 ∧ (p.1 = -9223372036854775808 → p.2 ≠ 0)) (fun p => p.2.natAbs) (fun p => ⟨[(0, vI p.1), (1, vI p.2)], [], 0⟩) (a, b)
    (canon_sub (ks := [0, 1]) (m := []) (n := 0) rfl) ⟨rfl, ha, hb, hab⟩ ?_
  rintro ⟨x, y⟩ ⟨hg, hx, hy, hxy⟩
  simp only at hg hx hy hxy
  repeat (first | refine oP rfl ?_ | (refine rG (fun _ h => h) ?_; conv => whnf) | (refine oN ?_; conv => whnf) | refine aS ?_ | (refine aR ?_; conv => whnf) | (refine aK ?_; conv => whnf) | (refine aX ?_; conv => whnf) | refine aB ?_ | (refine aT ?_; conv => whnf) | refine aC rfl ?_ | refine bT ?_ | refine bF ?_ | refine aL ?_ | refine aE ?_ | refine oY rfl rfl rfl ?_ | (refine oZ rfl rfl rfl ?_; conv => whnf) | (refine oO rfl rfl rfl ?_; conv => whnf) | (refine dI (by kernel_rfl) ?_; conv => whnf) | (refine rG (fun _ h => ⟨by decide, h⟩) ?_; conv => whnf))
  (first | refine br_intro (fun h => ?_) (fun h => ?_) | refine opsA_if rfl rfl rfl (fun h => ?_) (fun h => ?_) | refine opsA_unless rfl rfl rfl (fun h => ?_) (fun h => ?_)) <;> (try conv => whnf) <;> (repeat (first | refine oP rfl ?_ | (refine rG (fun _ h => h) ?_; conv => whnf) | (refine oN ?_; conv => whnf) | refine aS ?_ | (refine aR ?_; conv => whnf) | (refine aK ?_; conv => whnf) | (refine aX ?_; conv => whnf) | refine aB ?_ | (refine aT ?_; conv => whnf) | refine aC rfl ?_ | refine bT ?_ | refine bF ?_ | refine aL ?_ | refine aE ?_ | refine oY rfl rfl rfl ?_ | (refine oZ rfl rfl rfl ?_; conv => whnf) | (refine oO rfl rfl rfl ?_; conv => whnf) | (refine dI (by kernel_rfl) ?_; conv => whnf) | (refine rG (fun _ h => ⟨by decide, h⟩) ?_; conv => whnf)))
  · have h : (y != 0) = true := h
    have hne : y ≠ 0 := by simpa using h
    refine rG (fun _ h => ⟨hne, h⟩) ?_; (conv => whnf); repeat (first | refine oP rfl ?_ | (refine rG (fun _ h => h) ?_; conv => whnf) | (refine oN ?_; conv => whnf) | refine aS ?_ | (refine aR ?_; conv => whnf) | (refine aK ?_; conv => whnf) | (refine aX ?_; conv => whnf) | refine aB ?_ | (refine aT ?_; conv => whnf) | refine aC rfl ?_ | refine bT ?_ | refine bF ?_ | refine aL ?_ | refine aE ?_ | refine oY rfl rfl rfl ?_ | (refine oZ rfl rfl rfl ?_; conv => whnf) | (refine oO rfl rfl rfl ?_; conv => whnf) | (refine dI (by kernel_rfl) ?_; conv => whnf) | (refine rG (fun _ h => ⟨by decide, h⟩) ?_; conv => whnf))
    have hy1 := hy.1; have hy2 := hy.2
    refine ⟨(y, x.tmod y), ⟨?_, ⟨by simp only; omega, hy2⟩, ?_, fun e => absurd e (by simp only; omega)⟩, ?_, canon_sub (ks := [0, 1]) (m := []) (n := 0) rfl⟩
    · show Int.gcd y (x.tmod y) = _
      rw [← hg]
      show Nat.gcd y.natAbs (x.tmod y).natAbs = Nat.gcd x.natAbs y.natAbs
      rw [Int.natAbs_tmod, Nat.gcd_comm x.natAbs y.natAbs, Nat.gcd_rec y.natAbs x.natAbs, Nat.gcd_comm]
    · have h1 : (x.tmod y).natAbs = x.natAbs % y.natAbs := Int.natAbs_tmod _ _
      have h2 : x.natAbs % y.natAbs < y.natAbs := Nat.mod_lt _ (by omega)
      show -9223372036854775807 ≤ x.tmod y ∧ x.tmod y ≤ 9223372036854775807
      omega
    · show (x.tmod y).natAbs < y.natAbs
      rw [Int.natAbs_tmod]; exact Nat.mod_lt _ (by omega)
  · have h : (y != 0) = false := h
    have h0 : y = 0 := by simpa using h
    subst h0
    have hx1 := hx.1; have hx2 := hx.2
    have hx3 : x ≠ -9223372036854775808 := fun e => hxy e rfl
    refine rG (fun _ h => ⟨_, size_sat x (by omega) hx2, h⟩) ?_; (conv => whnf); repeat (first | refine oP rfl ?_ | (refine rG (fun _ h => h) ?_; conv => whnf) | (refine oN ?_; conv => whnf) | refine aS ?_ | (refine aR ?_; conv => whnf) | (refine aK ?_; conv => whnf) | (refine aX ?_; conv => whnf) | refine aB ?_ | (refine aT ?_; conv => whnf) | refine aC rfl ?_ | refine bT ?_ | refine bF ?_ | refine aL ?_ | refine aE ?_ | refine oY rfl rfl rfl ?_ | (refine oZ rfl rfl rfl ?_; conv => whnf) | (refine oO rfl rfl rfl ?_; conv => whnf) | (refine dI (by kernel_rfl) ?_; conv => whnf) | (refine rG (fun _ h => ⟨by decide, h⟩) ?_; conv => whnf))
    exact res_i (by rw [← hg]; simp)
end Go.Proofs.Tryz

namespace Go.Proofs.Tryz
open Go.Fw Go.IntWalk
set_option maxRecDepth 100000
set_option maxHeartbeats 4000000
theorem whole_sat (n : Int) : Sat cx.P cx.gl 9 [I n] (.one (F2 n 1)) := by
  refine Sat_of_awp (fn := f9) cx_ok (by kernel_rfl) (by kernel_rfl) rfl (by kernel_rfl) (Nat.le_of_ble_eq_true rfl) ?_
  repeat (first | refine oP rfl ?_ | (refine rG (fun _ h => h) ?_; conv => whnf) | (refine oN ?_; conv => whnf) | refine aS ?_ | (refine aR ?_; conv => whnf) | (refine aK ?_; conv => whnf) | (refine aX ?_; conv => whnf) | refine aB ?_ | (refine aT ?_; conv => whnf) | refine aC rfl ?_ | refine bT ?_ | refine bF ?_ | refine aL ?_ | refine aE ?_ | refine oY rfl rfl rfl ?_ | (refine oZ rfl rfl rfl ?_; conv => whnf) | (refine oO rfl rfl rfl ?_; conv => whnf) | (refine dI (by kernel_rfl) ?_; conv => whnf) | (refine rG (fun _ h => ⟨by decide, h⟩) ?_; conv => whnf))
  rfl
abbrev vL (l : List Int) : Option DV := some (.val (false, [.st (.ints l)]))
theorem quo_div {n g : Int} (hn : inR n) (_ : 0 < g) (hd : g ∣ n) : IntKind.i64.wrap (n.tdiv g) = n / g := by
  rw [Int.tdiv_eq_ediv_of_dvd hd]
  have h1 := hn.1; have h2 := hn.2
  have := Int.natAbs_ediv_le_natAbs n g
  exact i64_in _ (by omega)
theorem isLowest_sat (n d : Int) (hn : inI n) (hd : inI d) : Sat cx.P cx.gl 76 [F2 n d] (.one (Bo (decide (0 < d ∧ Int.gcd n d = 1)))) := by
  refine Sat_of_awp (fn := f76) cx_ok (by kernel_rfl) (by kernel_rfl) rfl (by kernel_rfl) (Nat.le_of_ble_eq_true rfl) ?_
  repeat (first | refine oP rfl ?_ | (refine rG (fun _ h => h) ?_; conv => whnf) | (refine oN ?_; conv => whnf) | refine aS ?_ | (refine aR ?_; conv => whnf) | (refine aK ?_; conv => whnf) | (refine aX ?_; conv => whnf) | refine aB ?_ | (refine aT ?_; conv => whnf) | refine aC rfl ?_ | refine bT ?_ | refine bF ?_ | refine aL ?_ | refine aE ?_ | refine oY rfl rfl rfl ?_ | (refine oZ rfl rfl rfl ?_; conv => whnf) | (refine oO rfl rfl rfl ?_; conv => whnf) | (refine dI (by kernel_rfl) ?_; conv => whnf) | (refine rG (fun _ h => ⟨by decide, h⟩) ?_; conv => whnf))
  (first | refine br_intro (fun h => ?_) (fun h => ?_) | refine opsA_if rfl rfl rfl (fun h => ?_) (fun h => ?_) | refine opsA_unless rfl rfl rfl (fun h => ?_) (fun h => ?_)) <;> (try conv => whnf) <;> (repeat (first | refine oP rfl ?_ | (refine rG (fun _ h => h) ?_; conv => whnf) | (refine oN ?_; conv => whnf) | refine aS ?_ | (refine aR ?_; conv => whnf) | (refine aK ?_; conv => whnf) | (refine aX ?_; conv => whnf) | refine aB ?_ | (refine aT ?_; conv => whnf) | refine aC rfl ?_ | refine bT ?_ | refine bF ?_ | refine aL ?_ | refine aE ?_ | refine oY rfl rfl rfl ?_ | (refine oZ rfl rfl rfl ?_; conv => whnf) | (refine oO rfl rfl rfl ?_; conv => whnf) | (refine dI (by kernel_rfl) ?_; conv => whnf) | (refine rG (fun _ h => ⟨by decide, h⟩) ?_; conv => whnf)))
  · have h : decide (d > 0) = true := h
    simp at h
    have := hd.2
    refine rG (fun _ h => ⟨_, gcd_sat n d hn ⟨by omega, by omega⟩ (fun _ => by omega), h⟩) ?_; (conv => whnf); repeat (first | refine oP rfl ?_ | (refine rG (fun _ h => h) ?_; conv => whnf) | (refine oN ?_; conv => whnf) | refine aS ?_ | (refine aR ?_; conv => whnf) | (refine aK ?_; conv => whnf) | (refine aX ?_; conv => whnf) | refine aB ?_ | (refine aT ?_; conv => whnf) | refine aC rfl ?_ | refine bT ?_ | refine bF ?_ | refine aL ?_ | refine aE ?_ | refine oY rfl rfl rfl ?_ | (refine oZ rfl rfl rfl ?_; conv => whnf) | (refine oO rfl rfl rfl ?_; conv => whnf) | (refine dI (by kernel_rfl) ?_; conv => whnf) | (refine rG (fun _ h => ⟨by decide, h⟩) ?_; conv => whnf))
    exact res_bo (by rw [Bool.eq_iff_iff]; simp [h]; omega)
  · have h : decide (d > 0) = false := h
    simp at h
    exact res_bo (by simp; omega)
/-- The error of a fault. -/
def faultErr (a b c d n m : Int) : Int :=
  if ¬ (0 ≤ a ∧ a ≤ 1000 ∧ 0 ≤ b ∧ b ≤ 1000 ∧ 1 ≤ c ∧ c ≤ 1000 ∧ 1 ≤ d ∧ d ≤ 1000) then 2
  else if ¬ (a ≤ b ∧ c ≤ d) then 9
  else if ¬ (0 < m ∧ Int.gcd n m = 1) then 3
  else if ¬ (1 ≤ n ∧ n ≤ 100 ∧ m ≤ 100) then 2 else 0
theorem first4 (p q r s : Bool) (P Q R S : Prop) [Decidable P] [Decidable Q] [Decidable R] [Decidable S] (hp : p = true ↔ P) (hq : q = true ↔ Q) (hr : r = true ↔ R) (hs : s = true ↔ S) :
    (([if p = true then 0 else 2, if q = true then 0 else 9, if r = true then 0 else 3, if s = true then (0 : Int) else 2].find? (fun x => decide (x ≠ 0))).getD 0) = if ¬ P then 2 else if ¬ Q then 9 else if ¬ R then 3 else if ¬ S then 2 else 0 := by
  simp only [← hp, ← hq, ← hr, ← hs]
  cases p <;> cases q <;> cases r <;> cases s <;> rfl
end Go.Proofs.Tryz

namespace Go.Proofs.Tryz
open Go.Fw Go.IntWalk
set_option maxRecDepth 100000
set_option maxHeartbeats 4000000
theorem wDivisor_sat (a b : Int) (ha : inI a) (hb : inR b) (hab : a = -9223372036854775808 → b ≠ 0) : Sat cx.P cx.gl 75 [I a, I b] (.one (I (Int.gcd a b))) := by
  refine Sat_of_awp (fn := f75) cx_ok (by kernel_rfl) (by kernel_rfl) rfl (by kernel_rfl) (Nat.le_of_ble_eq_true rfl) ?_
  repeat (first | refine oP rfl ?_ | (refine rG (fun _ h => h) ?_; conv => whnf) | (refine oN ?_; conv => whnf) | refine aS ?_ | (refine aR ?_; conv => whnf) | (refine aK ?_; conv => whnf) | (refine aX ?_; conv => whnf) | refine aB ?_ | (refine aT ?_; conv => whnf) | refine aC rfl ?_ | refine bT ?_ | refine bF ?_ | refine aL ?_ | refine aE ?_ | refine oY rfl rfl rfl ?_ | (refine oZ rfl rfl rfl ?_; conv => whnf) | (refine oO rfl rfl rfl ?_; conv => whnf) | (refine dI (by kernel_rfl) ?_; conv => whnf) | (refine rG (fun _ h => ⟨by decide, h⟩) ?_; conv => whnf))
  refine loop_ind (ι := Int × Int) (fun p => Int.gcd p.1 p.2 = Int.gcd a b ∧ inI p.1 ∧ inR p.2 ∧ (p.1 = -9223372036854775808 → p.2 ≠ 0)) (fun p => p.2.natAbs) (fun p => ⟨[(0, vI p.1), (1, vI p.2)], [], 0⟩) (a, b)
    (canon_sub (ks := [0, 1]) (m := []) (n := 0) rfl) ⟨rfl, ha, hb, hab⟩ ?_
  rintro ⟨x, y⟩ ⟨hg, hx, hy, hxy⟩
  simp only at hg hx hy hxy
  repeat (first | refine oP rfl ?_ | (refine rG (fun _ h => h) ?_; conv => whnf) | (refine oN ?_; conv => whnf) | refine aS ?_ | (refine aR ?_; conv => whnf) | (refine aK ?_; conv => whnf) | (refine aX ?_; conv => whnf) | refine aB ?_ | (refine aT ?_; conv => whnf) | refine aC rfl ?_ | refine bT ?_ | refine bF ?_ | refine aL ?_ | refine aE ?_ | refine oY rfl rfl rfl ?_ | (refine oZ rfl rfl rfl ?_; conv => whnf) | (refine oO rfl rfl rfl ?_; conv => whnf) | (refine dI (by kernel_rfl) ?_; conv => whnf) | (refine rG (fun _ h => ⟨by decide, h⟩) ?_; conv => whnf))
  (first | refine br_intro (fun h => ?_) (fun h => ?_) | refine opsA_if rfl rfl rfl (fun h => ?_) (fun h => ?_) | refine opsA_unless rfl rfl rfl (fun h => ?_) (fun h => ?_)) <;> (try conv => whnf) <;> (repeat (first | refine oP rfl ?_ | (refine rG (fun _ h => h) ?_; conv => whnf) | (refine oN ?_; conv => whnf) | refine aS ?_ | (refine aR ?_; conv => whnf) | (refine aK ?_; conv => whnf) | (refine aX ?_; conv => whnf) | refine aB ?_ | (refine aT ?_; conv => whnf) | refine aC rfl ?_ | refine bT ?_ | refine bF ?_ | refine aL ?_ | refine aE ?_ | refine oY rfl rfl rfl ?_ | (refine oZ rfl rfl rfl ?_; conv => whnf) | (refine oO rfl rfl rfl ?_; conv => whnf) | (refine dI (by kernel_rfl) ?_; conv => whnf) | (refine rG (fun _ h => ⟨by decide, h⟩) ?_; conv => whnf)))
  · have h : (y != 0) = true := h
    have hne : y ≠ 0 := by simpa using h
    refine rG (fun _ h => ⟨hne, h⟩) ?_; (conv => whnf); repeat (first | refine oP rfl ?_ | (refine rG (fun _ h => h) ?_; conv => whnf) | (refine oN ?_; conv => whnf) | refine aS ?_ | (refine aR ?_; conv => whnf) | (refine aK ?_; conv => whnf) | (refine aX ?_; conv => whnf) | refine aB ?_ | (refine aT ?_; conv => whnf) | refine aC rfl ?_ | refine bT ?_ | refine bF ?_ | refine aL ?_ | refine aE ?_ | refine oY rfl rfl rfl ?_ | (refine oZ rfl rfl rfl ?_; conv => whnf) | (refine oO rfl rfl rfl ?_; conv => whnf) | (refine dI (by kernel_rfl) ?_; conv => whnf) | (refine rG (fun _ h => ⟨by decide, h⟩) ?_; conv => whnf))
    have hy1 := hy.1; have hy2 := hy.2
    refine ⟨(y, x.tmod y), ⟨?_, ⟨by simp only; omega, hy2⟩, ?_, fun e => absurd e (by simp only; omega)⟩, ?_, canon_sub (ks := [0, 1]) (m := []) (n := 0) rfl⟩
    · show Int.gcd y (x.tmod y) = _
      rw [← hg]
      show Nat.gcd y.natAbs (x.tmod y).natAbs = Nat.gcd x.natAbs y.natAbs
      rw [Int.natAbs_tmod, Nat.gcd_comm x.natAbs y.natAbs, Nat.gcd_rec y.natAbs x.natAbs, Nat.gcd_comm]
    · have h1 : (x.tmod y).natAbs = x.natAbs % y.natAbs := Int.natAbs_tmod _ _
      have h2 : x.natAbs % y.natAbs < y.natAbs := Nat.mod_lt _ (by omega)
      show -9223372036854775807 ≤ x.tmod y ∧ x.tmod y ≤ 9223372036854775807
      omega
    · show (x.tmod y).natAbs < y.natAbs
      rw [Int.natAbs_tmod]; exact Nat.mod_lt _ (by omega)
  · have h : (y != 0) = false := h
    have h0 : y = 0 := by simpa using h
    subst h0
    have hx1 := hx.1; have hx2 := hx.2
    have hx3 : x ≠ -9223372036854775808 := fun e => hxy e rfl
    have e : IntKind.i64.wrap (0 - x) = -x := by rw [i64_in _ (by omega)]; omega
    show Res.one (I (if IntKind.i64.wrap (0 - x) > x then IntKind.i64.wrap (0 - x) else x)) = Res.one (I (Int.gcd a b))
    refine res_i ?_
    rw [← hg, e]
    have : (if -x > x then -x else x) = x.natAbs := by split <;> omega
    rw [this]; simp
theorem wUnless_sat (b : Bool) (e : Int) : Sat cx.P cx.gl 46 [Bo b, I e] (.one (I (if b then 0 else e))) := by
  refine Sat_of_awp (fn := f46) cx_ok (by kernel_rfl) (by kernel_rfl) rfl (by kernel_rfl) (Nat.le_of_ble_eq_true rfl) ?_
  repeat (first | refine oP rfl ?_ | (refine rG (fun _ h => h) ?_; conv => whnf) | (refine oN ?_; conv => whnf) | refine aS ?_ | (refine aR ?_; conv => whnf) | (refine aK ?_; conv => whnf) | (refine aX ?_; conv => whnf) | refine aB ?_ | (refine aT ?_; conv => whnf) | refine aC rfl ?_ | refine bT ?_ | refine bF ?_ | refine aL ?_ | refine aE ?_ | refine oY rfl rfl rfl ?_ | (refine oZ rfl rfl rfl ?_; conv => whnf) | (refine oO rfl rfl rfl ?_; conv => whnf) | (refine dI (by kernel_rfl) ?_; conv => whnf) | (refine rG (fun _ h => ⟨by decide, h⟩) ?_; conv => whnf))
  (first | refine br_intro (fun h => ?_) (fun h => ?_) | refine opsA_if rfl rfl rfl (fun h => ?_) (fun h => ?_) | refine opsA_unless rfl rfl rfl (fun h => ?_) (fun h => ?_)) <;> (try conv => whnf) <;> (repeat (first | refine oP rfl ?_ | (refine rG (fun _ h => h) ?_; conv => whnf) | (refine oN ?_; conv => whnf) | refine aS ?_ | (refine aR ?_; conv => whnf) | (refine aK ?_; conv => whnf) | (refine aX ?_; conv => whnf) | refine aB ?_ | (refine aT ?_; conv => whnf) | refine aC rfl ?_ | refine bT ?_ | refine bF ?_ | refine aL ?_ | refine aE ?_ | refine oY rfl rfl rfl ?_ | (refine oZ rfl rfl rfl ?_; conv => whnf) | (refine oO rfl rfl rfl ?_; conv => whnf) | (refine dI (by kernel_rfl) ?_; conv => whnf) | (refine rG (fun _ h => ⟨by decide, h⟩) ?_; conv => whnf)))
  · exact res_i (by simp [h])
  · exact res_i (by simp [h])
theorem wFirst_sat (l : List Int) (hl : l.length ≤ 1000000) : Sat cx.P cx.gl 45 [(false, [.ints l])] (.one (I ((l.find? (· ≠ 0)).getD 0))) := by
  refine Sat_of_awp (fn := f45) cx_ok (by kernel_rfl) (by kernel_rfl) rfl (by kernel_rfl) (Nat.le_of_ble_eq_true rfl) ?_
  repeat (first | refine oP rfl ?_ | (refine rG (fun _ h => h) ?_; conv => whnf) | (refine oN ?_; conv => whnf) | refine aS ?_ | (refine aR ?_; conv => whnf) | (refine aK ?_; conv => whnf) | (refine aX ?_; conv => whnf) | refine aB ?_ | (refine aT ?_; conv => whnf) | refine aC rfl ?_ | refine bT ?_ | refine bF ?_ | refine aL ?_ | refine aE ?_ | refine oY rfl rfl rfl ?_ | (refine oZ rfl rfl rfl ?_; conv => whnf) | (refine oO rfl rfl rfl ?_; conv => whnf) | (refine dI (by kernel_rfl) ?_; conv => whnf) | (refine rG (fun _ h => ⟨by decide, h⟩) ?_; conv => whnf))
  refine loop_ind (ι := Nat) (fun i => i ≤ l.length ∧ l.find? (· ≠ 0) = (l.drop i).find? (· ≠ 0)) (fun i => l.length - i) (fun i => ⟨[(5, vL l), (6, vI l.length), (7, vI i)], [], 0⟩) 0
    (canon_sub (ks := [5, 6, 7]) (m := []) (n := 0) rfl) ⟨Nat.zero_le _, rfl⟩ ?_
  rintro i ⟨hi, hf⟩
  repeat (first | refine oP rfl ?_ | (refine rG (fun _ h => h) ?_; conv => whnf) | (refine oN ?_; conv => whnf) | refine aS ?_ | (refine aR ?_; conv => whnf) | (refine aK ?_; conv => whnf) | (refine aX ?_; conv => whnf) | refine aB ?_ | (refine aT ?_; conv => whnf) | refine aC rfl ?_ | refine bT ?_ | refine bF ?_ | refine aL ?_ | refine aE ?_ | refine oY rfl rfl rfl ?_ | (refine oZ rfl rfl rfl ?_; conv => whnf) | (refine oO rfl rfl rfl ?_; conv => whnf) | (refine dI (by kernel_rfl) ?_; conv => whnf) | (refine rG (fun _ h => ⟨by decide, h⟩) ?_; conv => whnf))
  (first | refine br_intro (fun h => ?_) (fun h => ?_) | refine opsA_if rfl rfl rfl (fun h => ?_) (fun h => ?_) | refine opsA_unless rfl rfl rfl (fun h => ?_) (fun h => ?_)) <;> (try conv => whnf) <;> (repeat (first | refine oP rfl ?_ | (refine rG (fun _ h => h) ?_; conv => whnf) | (refine oN ?_; conv => whnf) | refine aS ?_ | (refine aR ?_; conv => whnf) | (refine aK ?_; conv => whnf) | (refine aX ?_; conv => whnf) | refine aB ?_ | (refine aT ?_; conv => whnf) | refine aC rfl ?_ | refine bT ?_ | refine bF ?_ | refine aL ?_ | refine aE ?_ | refine oY rfl rfl rfl ?_ | (refine oZ rfl rfl rfl ?_; conv => whnf) | (refine oO rfl rfl rfl ?_; conv => whnf) | (refine dI (by kernel_rfl) ?_; conv => whnf) | (refine rG (fun _ h => ⟨by decide, h⟩) ?_; conv => whnf)))
  · have hlt : i < l.length := by simpa using h
    have hd : l.drop i = l[i] :: l.drop (i + 1) := List.drop_eq_getElem_cons hlt
    refine rG (fun _ h => ⟨Int.natCast_nonneg i, [J l[i]], ints_elem hlt, rfl, h⟩) ?_; (conv => whnf); repeat (first | refine oP rfl ?_ | (refine rG (fun _ h => h) ?_; conv => whnf) | (refine oN ?_; conv => whnf) | refine aS ?_ | (refine aR ?_; conv => whnf) | (refine aK ?_; conv => whnf) | (refine aX ?_; conv => whnf) | refine aB ?_ | (refine aT ?_; conv => whnf) | refine aC rfl ?_ | refine bT ?_ | refine bF ?_ | refine aL ?_ | refine aE ?_ | refine oY rfl rfl rfl ?_ | (refine oZ rfl rfl rfl ?_; conv => whnf) | (refine oO rfl rfl rfl ?_; conv => whnf) | (refine dI (by kernel_rfl) ?_; conv => whnf) | (refine rG (fun _ h => ⟨by decide, h⟩) ?_; conv => whnf))
    (first | refine br_intro (fun h => ?_) (fun h => ?_) | refine opsA_if rfl rfl rfl (fun h => ?_) (fun h => ?_) | refine opsA_unless rfl rfl rfl (fun h => ?_) (fun h => ?_)) <;> (try conv => whnf) <;> (repeat (first | refine oP rfl ?_ | (refine rG (fun _ h => h) ?_; conv => whnf) | (refine oN ?_; conv => whnf) | refine aS ?_ | (refine aR ?_; conv => whnf) | (refine aK ?_; conv => whnf) | (refine aX ?_; conv => whnf) | refine aB ?_ | (refine aT ?_; conv => whnf) | refine aC rfl ?_ | refine bT ?_ | refine bF ?_ | refine aL ?_ | refine aE ?_ | refine oY rfl rfl rfl ?_ | (refine oZ rfl rfl rfl ?_; conv => whnf) | (refine oO rfl rfl rfl ?_; conv => whnf) | (refine dI (by kernel_rfl) ?_; conv => whnf) | (refine rG (fun _ h => ⟨by decide, h⟩) ?_; conv => whnf)))
    · have h : (l[i] != 0) = true := h
      exact res_i (by simp at h; rw [hf, hd, List.find?_cons_of_pos (by simpa using h)]; rfl)
    · have h : (l[i] != 0) = false := h
      refine ⟨i + 1, ⟨hlt, ?_⟩, by omega, canon_sub (ks := [5, 6, 7]) (m := []) (n := 0) ?_⟩
      · rw [hf, hd]; simp at h; simp [h]
      · have e : IntKind.i64.wrap (i + 1) = ((i + 1 : Nat) : Int) := by rw [i64_in _ (by omega)]; simp
        rw [← e]; rfl
  · have h : decide ((i : Int) < l.length) = false := h
    have : i = l.length := by simp at h; omega
    subst this
    exact res_i (by rw [hf]; simp)
theorem wLowest_sat (n d : Int) (hn : inR n) (hd : 0 < d ∧ d ≤ 9223372036854775807) : Sat cx.P cx.gl 50 [I n, I d] (.one (F2 (n / Int.gcd n d) (d / Int.gcd n d))) := by
  have hg : (0 : Int) < Int.gcd n d := by
    have := Int.gcd_pos_of_ne_zero_right n (show d ≠ 0 by omega); omega
  refine Sat_of_awp (fn := f50) cx_ok (by kernel_rfl) (by kernel_rfl) rfl (by kernel_rfl) (Nat.le_of_ble_eq_true rfl) ?_
  repeat (first | refine oP rfl ?_ | (refine rG (fun _ h => h) ?_; conv => whnf) | (refine oN ?_; conv => whnf) | refine aS ?_ | (refine aR ?_; conv => whnf) | (refine aK ?_; conv => whnf) | (refine aX ?_; conv => whnf) | refine aB ?_ | (refine aT ?_; conv => whnf) | refine aC rfl ?_ | refine bT ?_ | refine bF ?_ | refine aL ?_ | refine aE ?_ | refine oY rfl rfl rfl ?_ | (refine oZ rfl rfl rfl ?_; conv => whnf) | (refine oO rfl rfl rfl ?_; conv => whnf) | (refine dI (by kernel_rfl) ?_; conv => whnf) | (refine rG (fun _ h => ⟨by decide, h⟩) ?_; conv => whnf))
  refine rG (fun _ h => ⟨_, wDivisor_sat n d hn.i ⟨by omega, by omega⟩ (fun e => absurd e hn.ne), h⟩) ?_; (conv => whnf); repeat (first | refine oP rfl ?_ | (refine rG (fun _ h => h) ?_; conv => whnf) | (refine oN ?_; conv => whnf) | refine aS ?_ | (refine aR ?_; conv => whnf) | (refine aK ?_; conv => whnf) | (refine aX ?_; conv => whnf) | refine aB ?_ | (refine aT ?_; conv => whnf) | refine aC rfl ?_ | refine bT ?_ | refine bF ?_ | refine aL ?_ | refine aE ?_ | refine oY rfl rfl rfl ?_ | (refine oZ rfl rfl rfl ?_; conv => whnf) | (refine oO rfl rfl rfl ?_; conv => whnf) | (refine dI (by kernel_rfl) ?_; conv => whnf) | (refine rG (fun _ h => ⟨by decide, h⟩) ?_; conv => whnf))
  refine rG (fun _ h => ⟨Int.ne_of_gt hg, h⟩) ?_; (conv => whnf); repeat (first | refine oP rfl ?_ | (refine rG (fun _ h => h) ?_; conv => whnf) | (refine oN ?_; conv => whnf) | refine aS ?_ | (refine aR ?_; conv => whnf) | (refine aK ?_; conv => whnf) | (refine aX ?_; conv => whnf) | refine aB ?_ | (refine aT ?_; conv => whnf) | refine aC rfl ?_ | refine bT ?_ | refine bF ?_ | refine aL ?_ | refine aE ?_ | refine oY rfl rfl rfl ?_ | (refine oZ rfl rfl rfl ?_; conv => whnf) | (refine oO rfl rfl rfl ?_; conv => whnf) | (refine dI (by kernel_rfl) ?_; conv => whnf) | (refine rG (fun _ h => ⟨by decide, h⟩) ?_; conv => whnf))
  refine rG (fun _ h => ⟨Int.ne_of_gt hg, h⟩) ?_; (conv => whnf); repeat (first | refine oP rfl ?_ | (refine rG (fun _ h => h) ?_; conv => whnf) | (refine oN ?_; conv => whnf) | refine aS ?_ | (refine aR ?_; conv => whnf) | (refine aK ?_; conv => whnf) | (refine aX ?_; conv => whnf) | refine aB ?_ | (refine aT ?_; conv => whnf) | refine aC rfl ?_ | refine bT ?_ | refine bF ?_ | refine aL ?_ | refine aE ?_ | refine oY rfl rfl rfl ?_ | (refine oZ rfl rfl rfl ?_; conv => whnf) | (refine oO rfl rfl rfl ?_; conv => whnf) | (refine dI (by kernel_rfl) ?_; conv => whnf) | (refine rG (fun _ h => ⟨by decide, h⟩) ?_; conv => whnf))
  exact res_f2 (quo_div hn hg (Int.gcd_dvd_left ..)) (quo_div ⟨by omega, by omega⟩ hg (Int.gcd_dvd_right ..))
end Go.Proofs.Tryz

namespace Go.Proofs.Tryz
open Go.Fw Go.IntWalk
set_option maxRecDepth 100000
set_option maxHeartbeats 4000000
end Go.Proofs.Tryz

namespace Go.Proofs.Tryz
open Go.Fw Go.IntWalk
set_option maxRecDepth 100000
set_option maxHeartbeats 4000000
/-- A fraction in lowest terms. -/
abbrev F4 (a b c d : Int) : SV := (true, [J a, J b, J c, J d])
def lowN (n d : Int) : Int := n / Int.gcd n d
def lowD (n d : Int) : Int := d / Int.gcd n d
end Go.Proofs.Tryz

namespace Go.Proofs.Tryz
open Go.Fw Go.IntWalk
set_option maxRecDepth 100000
set_option maxHeartbeats 4000000
end Go.Proofs.Tryz

namespace Go.Proofs.Tryz
open Go.Fw Go.IntWalk
set_option maxRecDepth 100000
set_option maxHeartbeats 4000000
/-- The answer whether a unit holds a limit. -/
def holdsV (p q r s u n : Int) : Int := if ¬ n * (s * s) < u * (r * r) then 2 else if n * (q * q) < u * (p * p) then 0 else 1
end Go.Proofs.Tryz

namespace Go.Proofs.Tryz
open Go.Fw Go.IntWalk
set_option maxRecDepth 100000
set_option maxHeartbeats 4000000
theorem faultErr_zero {a b c d n m : Int} (h : faultErr a b c d n m = 0) : (0 ≤ a ∧ a ≤ 1000) ∧ (0 ≤ b ∧ b ≤ 1000) ∧ (1 ≤ c ∧ c ≤ 1000) ∧ (1 ≤ d ∧ d ≤ 1000) ∧ (1 ≤ n ∧ n ≤ 100) ∧ (1 ≤ m ∧ m ≤ 100) ∧ a ≤ b ∧ c ≤ d := by
  unfold faultErr at h
  repeat' split at h
  all_goals omega
theorem low_bounds {n d : Int} (hn : 0 ≤ n ∧ n ≤ 100000) (hd : 1 ≤ d ∧ d ≤ 100000) : (0 ≤ lowN n d ∧ lowN n d ≤ 100000) ∧ (0 ≤ lowD n d ∧ lowD n d ≤ 100000) := by
  unfold lowN lowD
  have h1 := Int.natAbs_ediv_le_natAbs n (Int.gcd n d)
  have h2 := Int.natAbs_ediv_le_natAbs d (Int.gcd n d)
  have h3 : 0 ≤ n / (Int.gcd n d : Int) := Int.ediv_nonneg hn.1 (by omega)
  have h4 : 0 ≤ d / (Int.gcd n d : Int) := Int.ediv_nonneg (by omega) (by omega)
  omega
/-- The error of a question whether a unit holds a limit. -/
def askErr (a b c d n m u l : Int) : Int := if faultErr a b c d n m ≠ 0 then faultErr a b c d n m else if 0 ≤ u ∧ u ≤ 10000000 then (if 1 ≤ l ∧ l ≤ 100000000 then 0 else 2) else 2
abbrev holdsF (a b c d n m u l : Int) : Int := holdsV (lowN (a * n) (d * m)) (lowD (a * n) (d * m)) (lowN (b * n) (c * m)) (lowD (b * n) (c * m)) u l
theorem ask_find (a b c d n m u l : Int) : (([faultErr a b c d n m, if 0 ≤ u ∧ u ≤ 10000000 then 0 else 2, if (decide (1 ≤ l) && decide (l ≤ 100000000)) = true then 0 else 2].find? (fun x => decide (x ≠ 0))).getD 0) = askErr a b c d n m u l := by
  unfold askErr
  generalize faultErr a b c d n m = e
  by_cases h1 : e = 0 <;> by_cases h2 : 0 ≤ u ∧ u ≤ 10000000 <;> by_cases h3 : 1 ≤ l ∧ l ≤ 100000000 <;> simp [h1, h2, h3]
theorem peak_bounds {a b c d n m : Int} (h : faultErr a b c d n m = 0) : (0 ≤ a * n ∧ a * n ≤ 100000) ∧ (1 ≤ d * m ∧ d * m ≤ 100000) ∧ (0 ≤ b * n ∧ b * n ≤ 100000) ∧ (1 ≤ c * m ∧ c * m ≤ 100000) := by
  obtain ⟨ha, hb, hc, hd, hn, hm, _, _⟩ := faultErr_zero h
  have pr : ∀ v n : Int, 0 ≤ v ∧ v ≤ 1000 → 1 ≤ n ∧ n ≤ 100 → 0 ≤ v * n ∧ v * n ≤ 100000 := fun v n hv hn => ⟨Int.mul_nonneg hv.1 (by omega), by have := Int.mul_le_mul hv.2 hn.2 (by omega) (by omega); omega⟩
  have ps : ∀ v n : Int, 1 ≤ v ∧ v ≤ 1000 → 1 ≤ n ∧ n ≤ 100 → 1 ≤ v * n := fun v n hv hn => by have := Int.mul_le_mul hv.1 hn.1 (by omega) (by omega); omega
  exact ⟨pr a n ha hn, ⟨ps d m hd hm, (pr d m (by omega) hm).2⟩, pr b n hb hn, ⟨ps c m hc hm, (pr c m (by omega) hm).2⟩⟩
theorem ask_zero {a b c d n m u l : Int} (h : askErr a b c d n m u l = 0) : faultErr a b c d n m = 0 ∧ (0 ≤ u ∧ u ≤ 10000000) ∧ (1 ≤ l ∧ l ≤ 100000000) := by
  unfold askErr at h
  by_cases h1 : faultErr a b c d n m = 0
  · refine ⟨h1, ?_⟩
    simp only [h1, ne_eq, not_true_eq_false, if_false] at h
    repeat' split at h
    all_goals omega
  · simp only [h1, ne_eq, not_false_eq_true, if_true] at h
end Go.Proofs.Tryz

namespace Go.Proofs.Tryz
open Go.Fw Go.IntWalk Go.Plain
set_option maxRecDepth 100000
set_option maxHeartbeats 4000000
abbrev L (l : List Int) : SV := (false, [.ints l])
abbrev W2 (a b : List Int) : SV := (true, [.ints a, .ints b])
theorem res_iff {p q : Prop} [Decidable p] [Decidable q] (h : p ↔ q) : Res.one (Bo (decide p)) = .one (Bo (decide q)) := by rw [decide_eq_decide.2 h]
theorem natInt (i : Nat) : ((i : Int) + 1) = ((i + 1 : Nat) : Int) := by simp
/-- A predicate on ints that a function value computes. -/
def Pred (f : SC) (p : Int → Bool) : Prop := ∃ g first caps, f = .fn g first caps ∧ ∀ n, Sat cx.P cx.gl g (first ++ [I n] ++ caps.map fun cs => (false, [.ref cs])) (.one (Bo (p n)))
theorem indexFunc_sat (l : List Int) (g : FuncId) (first : List (Bool × List SC)) (caps : List (List SC)) (p : Int → Bool) (hp : ∀ n, Sat cx.P cx.gl g (first ++ [I n] ++ caps.map fun cs => (false, [.ref cs])) (.one (Bo (p n)))) (hl : l.length ≤ maxLen) :
    Sat cx.P cx.gl 98 [L l, (false, [.fn g first caps])] (.one (I (if l.any p then (l.findIdx p : Int) else -1))) := by
  unfold maxLen at hl
  refine Sat_of_awp (fn := f98) cx_ok (by kernel_rfl) (by kernel_rfl) rfl (by kernel_rfl) (Nat.le_of_ble_eq_true rfl) ?_
  repeat ((first | refine oP rfl ?_ | refine rP rfl (fun _ z => z) ?_ | (refine kO 1 rfl ?_; first | refine rAdd rfl rfl rfl (by omega) ?_ | refine rSub rfl rfl rfl (by omega) ?_ | refine rMul rfl rfl rfl (by omega) ?_ | refine rQuo rfl rfl rfl (by omega) ?_ | refine rRem rfl rfl rfl (by omega) ?_ | refine rQuo' rfl rfl rfl (by omega) ?_ | refine rRem' rfl rfl rfl (by omega) ?_ | refine rG (fun _ z => z) ?_) | (refine kO 2 rfl ?_; first | refine rNeg rfl rfl (by omega) ?_ | refine rG (fun _ z => z) ?_) | (refine kO 3 rfl ?_; first | refine rLdr rfl rfl rfl rfl rfl ?_ | refine rLdb rfl rfl rfl rfl rfl rfl rfl ?_ | refine rLdi rfl rfl rfl rfl rfl rfl (by first | omega | decide | exact Nat.le_of_ble_eq_true rfl | (dsimp only [SC.len]; omega) | (simp; done) | (simp; omega) | omega) ?_ | refine rG (fun _ z => z) ?_ | refine rG (fun _ z => ⟨_, rfl, z⟩) ?_) | (refine kO 4 rfl ?_; first | refine rSti rfl rfl rfl rfl rfl rfl (by first | omega | decide | exact Nat.le_of_ble_eq_true rfl | (dsimp only [SC.len]; omega) | (simp; done) | (simp; omega) | omega) ?_ | refine rG (fun _ z => z) ?_) | (refine kO 5 rfl ?_; first | refine rIdN rfl rfl rfl rfl rfl rfl rfl (by first | omega | decide | exact Nat.le_of_ble_eq_true rfl | (dsimp only [SC.len]; omega) | (simp; done) | (simp; omega) | omega) ?_ | refine rIdx rfl rfl rfl rfl rfl rfl rfl (by first | omega | decide | exact Nat.le_of_ble_eq_true rfl | (dsimp only [SC.len]; omega) | (simp; done) | (simp; omega) | omega) ?_ | refine rIdoN rfl rfl rfl rfl rfl rfl rfl rfl (by first | omega | decide | exact Nat.le_of_ble_eq_true rfl | (dsimp only [SC.len]; omega) | (simp; done) | (simp; omega) | omega) ?_ | refine rIdo rfl rfl rfl rfl rfl rfl rfl rfl (by first | omega | decide | exact Nat.le_of_ble_eq_true rfl | (dsimp only [SC.len]; omega) | (simp; done) | (simp; omega) | omega) ?_ | refine rIdvN rfl rfl rfl rfl rfl rfl (by first | assumption | rfl) rfl ?_) | (refine kO 6 rfl ?_; first | refine rLen rfl rfl rfl rfl rfl rfl ?_ | refine rLenv rfl rfl rfl rfl rfl rfl ?_ | refine rLeno rfl rfl rfl rfl rfl rfl rfl ?_ | refine rLenov rfl rfl rfl rfl rfl rfl rfl ?_ | refine rG (fun _ z => z) ?_) | (refine kO 8 rfl ?_; first | refine rSlH rfl rfl rfl rfl rfl rfl rfl (by omega) ?_ | refine rSlL rfl rfl rfl rfl rfl rfl rfl (by omega) ?_ | refine rG (fun _ z => z) ?_) | refine oN ?_ | refine aS ?_ | refine aR ?_ | refine aK ?_ | refine aX ?_ | refine aB ?_ | refine aT ?_ | refine aC rfl ?_ | refine bT ?_ | refine bF ?_ | refine bPt (by omega) ?_ | refine bPf (by omega) ?_ | refine aL ?_ | refine aE ?_ | refine oY rfl rfl rfl ?_ | refine oZ rfl rfl rfl ?_ | refine oO rfl rfl rfl ?_ | refine oIt rfl rfl rfl (by omega) ?_ | refine oIf rfl rfl rfl (by omega) ?_ | refine oUt rfl rfl rfl (by omega) ?_ | refine oUf rfl rfl rfl (by omega) ?_ | refine dI (by kernel_rfl) ?_ | refine rG (fun _ z => ⟨(by (first | omega | decide | rfl | exact lnS (by omega) | exact lnN (by decide) | exact lnN (by omega) | exact lnC (by omega) | exact lvS (by omega) | exact lvN (by decide) | exact lvC (by omega) | exact uvS rfl | exact uvN rfl | ((try unfold SC.len); (try unfold SC.uni); (try unfold LIM); (try simp); (try omega); done) | omega)), z⟩) ?_ | refine rG (fun _ z => ⟨(by (first | omega | decide | rfl | exact lnS (by omega) | exact lnN (by decide) | exact lnN (by omega) | exact lnC (by omega) | exact lvS (by omega) | exact lvN (by decide) | exact lvC (by omega) | exact uvS rfl | exact uvN rfl | ((try unfold SC.len); (try unfold SC.uni); (try unfold LIM); (try simp); (try omega); done) | omega)), (by (first | omega | decide | rfl | exact lnS (by omega) | exact lnN (by decide) | exact lnN (by omega) | exact lnC (by omega) | exact lvS (by omega) | exact lvN (by decide) | exact lvC (by omega) | exact uvS rfl | exact uvN rfl | ((try unfold SC.len); (try unfold SC.uni); (try unfold LIM); (try simp); (try omega); done) | omega)), z⟩) ?_); (try conv => whnf))
  refine loop_ind (ι := Nat) (fun i => i ≤ l.length ∧ ∀ j < i, p (l.getD j 0) = false) (fun i => l.length - i) (fun i => ⟨[(0, vL l), (1, some (.val (false, [.st (.fn g first caps)]))), (7, vI l.length), (8, vI i)], [], 0⟩) 0 (canon_auto (by kernel_rfl)) ⟨Nat.zero_le _, by intro j hj; omega⟩ ?_
  rintro i ⟨hi, hf⟩
  repeat ((first | refine oP rfl ?_ | refine rP rfl (fun _ z => z) ?_ | (refine kO 1 rfl ?_; first | refine rAdd rfl rfl rfl (by omega) ?_ | refine rSub rfl rfl rfl (by omega) ?_ | refine rMul rfl rfl rfl (by omega) ?_ | refine rQuo rfl rfl rfl (by omega) ?_ | refine rRem rfl rfl rfl (by omega) ?_ | refine rQuo' rfl rfl rfl (by omega) ?_ | refine rRem' rfl rfl rfl (by omega) ?_ | refine rG (fun _ z => z) ?_) | (refine kO 2 rfl ?_; first | refine rNeg rfl rfl (by omega) ?_ | refine rG (fun _ z => z) ?_) | (refine kO 3 rfl ?_; first | refine rLdr rfl rfl rfl rfl rfl ?_ | refine rLdb rfl rfl rfl rfl rfl rfl rfl ?_ | refine rLdi rfl rfl rfl rfl rfl rfl (by first | omega | decide | exact Nat.le_of_ble_eq_true rfl | (dsimp only [SC.len]; omega) | (simp; done) | (simp; omega) | omega) ?_ | refine rG (fun _ z => z) ?_ | refine rG (fun _ z => ⟨_, rfl, z⟩) ?_) | (refine kO 4 rfl ?_; first | refine rSti rfl rfl rfl rfl rfl rfl (by first | omega | decide | exact Nat.le_of_ble_eq_true rfl | (dsimp only [SC.len]; omega) | (simp; done) | (simp; omega) | omega) ?_ | refine rG (fun _ z => z) ?_) | (refine kO 5 rfl ?_; first | refine rIdN rfl rfl rfl rfl rfl rfl rfl (by first | omega | decide | exact Nat.le_of_ble_eq_true rfl | (dsimp only [SC.len]; omega) | (simp; done) | (simp; omega) | omega) ?_ | refine rIdx rfl rfl rfl rfl rfl rfl rfl (by first | omega | decide | exact Nat.le_of_ble_eq_true rfl | (dsimp only [SC.len]; omega) | (simp; done) | (simp; omega) | omega) ?_ | refine rIdoN rfl rfl rfl rfl rfl rfl rfl rfl (by first | omega | decide | exact Nat.le_of_ble_eq_true rfl | (dsimp only [SC.len]; omega) | (simp; done) | (simp; omega) | omega) ?_ | refine rIdo rfl rfl rfl rfl rfl rfl rfl rfl (by first | omega | decide | exact Nat.le_of_ble_eq_true rfl | (dsimp only [SC.len]; omega) | (simp; done) | (simp; omega) | omega) ?_ | refine rIdvN rfl rfl rfl rfl rfl rfl (by first | assumption | rfl) rfl ?_) | (refine kO 6 rfl ?_; first | refine rLen rfl rfl rfl rfl rfl rfl ?_ | refine rLenv rfl rfl rfl rfl rfl rfl ?_ | refine rLeno rfl rfl rfl rfl rfl rfl rfl ?_ | refine rLenov rfl rfl rfl rfl rfl rfl rfl ?_ | refine rG (fun _ z => z) ?_) | (refine kO 8 rfl ?_; first | refine rSlH rfl rfl rfl rfl rfl rfl rfl (by omega) ?_ | refine rSlL rfl rfl rfl rfl rfl rfl rfl (by omega) ?_ | refine rG (fun _ z => z) ?_) | refine oN ?_ | refine aS ?_ | refine aR ?_ | refine aK ?_ | refine aX ?_ | refine aB ?_ | refine aT ?_ | refine aC rfl ?_ | refine bT ?_ | refine bF ?_ | refine bPt (by omega) ?_ | refine bPf (by omega) ?_ | refine aL ?_ | refine aE ?_ | refine oY rfl rfl rfl ?_ | refine oZ rfl rfl rfl ?_ | refine oO rfl rfl rfl ?_ | refine oIt rfl rfl rfl (by omega) ?_ | refine oIf rfl rfl rfl (by omega) ?_ | refine oUt rfl rfl rfl (by omega) ?_ | refine oUf rfl rfl rfl (by omega) ?_ | refine dI (by kernel_rfl) ?_ | refine rG (fun _ z => ⟨(by (first | omega | decide | rfl | exact lnS (by omega) | exact lnN (by decide) | exact lnN (by omega) | exact lnC (by omega) | exact lvS (by omega) | exact lvN (by decide) | exact lvC (by omega) | exact uvS rfl | exact uvN rfl | ((try unfold SC.len); (try unfold SC.uni); (try unfold LIM); (try simp); (try omega); done) | omega)), z⟩) ?_ | refine rG (fun _ z => ⟨(by (first | omega | decide | rfl | exact lnS (by omega) | exact lnN (by decide) | exact lnN (by omega) | exact lnC (by omega) | exact lvS (by omega) | exact lvN (by decide) | exact lvC (by omega) | exact uvS rfl | exact uvN rfl | ((try unfold SC.len); (try unfold SC.uni); (try unfold LIM); (try simp); (try omega); done) | omega)), (by (first | omega | decide | rfl | exact lnS (by omega) | exact lnN (by decide) | exact lnN (by omega) | exact lnC (by omega) | exact lvS (by omega) | exact lvN (by decide) | exact lvC (by omega) | exact uvS rfl | exact uvN rfl | ((try unfold SC.len); (try unfold SC.uni); (try unfold LIM); (try simp); (try omega); done) | omega)), z⟩) ?_); (try conv => whnf))
  ((first | refine brp (fun h => ?_) (fun h => ?_) | refine opsA_ifp rfl rfl rfl (fun h => ?_) (fun h => ?_) | refine opsA_unlessp rfl rfl rfl (fun h => ?_) (fun h => ?_)) <;> (try conv => whnf)) <;> (repeat ((first | refine oP rfl ?_ | refine rP rfl (fun _ z => z) ?_ | (refine kO 1 rfl ?_; first | refine rAdd rfl rfl rfl (by omega) ?_ | refine rSub rfl rfl rfl (by omega) ?_ | refine rMul rfl rfl rfl (by omega) ?_ | refine rQuo rfl rfl rfl (by omega) ?_ | refine rRem rfl rfl rfl (by omega) ?_ | refine rQuo' rfl rfl rfl (by omega) ?_ | refine rRem' rfl rfl rfl (by omega) ?_ | refine rG (fun _ z => z) ?_) | (refine kO 2 rfl ?_; first | refine rNeg rfl rfl (by omega) ?_ | refine rG (fun _ z => z) ?_) | (refine kO 3 rfl ?_; first | refine rLdr rfl rfl rfl rfl rfl ?_ | refine rLdb rfl rfl rfl rfl rfl rfl rfl ?_ | refine rLdi rfl rfl rfl rfl rfl rfl (by first | omega | decide | exact Nat.le_of_ble_eq_true rfl | (dsimp only [SC.len]; omega) | (simp; done) | (simp; omega) | omega) ?_ | refine rG (fun _ z => z) ?_ | refine rG (fun _ z => ⟨_, rfl, z⟩) ?_) | (refine kO 4 rfl ?_; first | refine rSti rfl rfl rfl rfl rfl rfl (by first | omega | decide | exact Nat.le_of_ble_eq_true rfl | (dsimp only [SC.len]; omega) | (simp; done) | (simp; omega) | omega) ?_ | refine rG (fun _ z => z) ?_) | (refine kO 5 rfl ?_; first | refine rIdN rfl rfl rfl rfl rfl rfl rfl (by first | omega | decide | exact Nat.le_of_ble_eq_true rfl | (dsimp only [SC.len]; omega) | (simp; done) | (simp; omega) | omega) ?_ | refine rIdx rfl rfl rfl rfl rfl rfl rfl (by first | omega | decide | exact Nat.le_of_ble_eq_true rfl | (dsimp only [SC.len]; omega) | (simp; done) | (simp; omega) | omega) ?_ | refine rIdoN rfl rfl rfl rfl rfl rfl rfl rfl (by first | omega | decide | exact Nat.le_of_ble_eq_true rfl | (dsimp only [SC.len]; omega) | (simp; done) | (simp; omega) | omega) ?_ | refine rIdo rfl rfl rfl rfl rfl rfl rfl rfl (by first | omega | decide | exact Nat.le_of_ble_eq_true rfl | (dsimp only [SC.len]; omega) | (simp; done) | (simp; omega) | omega) ?_ | refine rIdvN rfl rfl rfl rfl rfl rfl (by first | assumption | rfl) rfl ?_) | (refine kO 6 rfl ?_; first | refine rLen rfl rfl rfl rfl rfl rfl ?_ | refine rLenv rfl rfl rfl rfl rfl rfl ?_ | refine rLeno rfl rfl rfl rfl rfl rfl rfl ?_ | refine rLenov rfl rfl rfl rfl rfl rfl rfl ?_ | refine rG (fun _ z => z) ?_) | (refine kO 8 rfl ?_; first | refine rSlH rfl rfl rfl rfl rfl rfl rfl (by omega) ?_ | refine rSlL rfl rfl rfl rfl rfl rfl rfl (by omega) ?_ | refine rG (fun _ z => z) ?_) | refine oN ?_ | refine aS ?_ | refine aR ?_ | refine aK ?_ | refine aX ?_ | refine aB ?_ | refine aT ?_ | refine aC rfl ?_ | refine bT ?_ | refine bF ?_ | refine bPt (by omega) ?_ | refine bPf (by omega) ?_ | refine aL ?_ | refine aE ?_ | refine oY rfl rfl rfl ?_ | refine oZ rfl rfl rfl ?_ | refine oO rfl rfl rfl ?_ | refine oIt rfl rfl rfl (by omega) ?_ | refine oIf rfl rfl rfl (by omega) ?_ | refine oUt rfl rfl rfl (by omega) ?_ | refine oUf rfl rfl rfl (by omega) ?_ | refine dI (by kernel_rfl) ?_ | refine rG (fun _ z => ⟨(by (first | omega | decide | rfl | exact lnS (by omega) | exact lnN (by decide) | exact lnN (by omega) | exact lnC (by omega) | exact lvS (by omega) | exact lvN (by decide) | exact lvC (by omega) | exact uvS rfl | exact uvN rfl | ((try unfold SC.len); (try unfold SC.uni); (try unfold LIM); (try simp); (try omega); done) | omega)), z⟩) ?_ | refine rG (fun _ z => ⟨(by (first | omega | decide | rfl | exact lnS (by omega) | exact lnN (by decide) | exact lnN (by omega) | exact lnC (by omega) | exact lvS (by omega) | exact lvN (by decide) | exact lvC (by omega) | exact uvS rfl | exact uvN rfl | ((try unfold SC.len); (try unfold SC.uni); (try unfold LIM); (try simp); (try omega); done) | omega)), (by (first | omega | decide | rfl | exact lnS (by omega) | exact lnN (by decide) | exact lnN (by omega) | exact lnC (by omega) | exact lvS (by omega) | exact lvN (by decide) | exact lvC (by omega) | exact uvS rfl | exact uvN rfl | ((try unfold SC.len); (try unfold SC.uni); (try unfold LIM); (try simp); (try omega); done) | omega)), z⟩) ?_); (try conv => whnf)))
  · have hlt : i < l.length := by omega
    repeat ((first | refine oP rfl ?_ | refine rP rfl (fun _ z => z) ?_ | (refine kO 1 rfl ?_; first | refine rAdd rfl rfl rfl (by omega) ?_ | refine rSub rfl rfl rfl (by omega) ?_ | refine rMul rfl rfl rfl (by omega) ?_ | refine rQuo rfl rfl rfl (by omega) ?_ | refine rRem rfl rfl rfl (by omega) ?_ | refine rQuo' rfl rfl rfl (by omega) ?_ | refine rRem' rfl rfl rfl (by omega) ?_ | refine rG (fun _ z => z) ?_) | (refine kO 2 rfl ?_; first | refine rNeg rfl rfl (by omega) ?_ | refine rG (fun _ z => z) ?_) | (refine kO 3 rfl ?_; first | refine rLdr rfl rfl rfl rfl rfl ?_ | refine rLdb rfl rfl rfl rfl rfl rfl rfl ?_ | refine rLdi rfl rfl rfl rfl rfl rfl (by first | omega | decide | exact Nat.le_of_ble_eq_true rfl | (dsimp only [SC.len]; omega) | (simp; done) | (simp; omega) | omega) ?_ | refine rG (fun _ z => z) ?_ | refine rG (fun _ z => ⟨_, rfl, z⟩) ?_) | (refine kO 4 rfl ?_; first | refine rSti rfl rfl rfl rfl rfl rfl (by first | omega | decide | exact Nat.le_of_ble_eq_true rfl | (dsimp only [SC.len]; omega) | (simp; done) | (simp; omega) | omega) ?_ | refine rG (fun _ z => z) ?_) | (refine kO 5 rfl ?_; first | refine rIdN rfl rfl rfl rfl rfl rfl rfl (by first | omega | decide | exact Nat.le_of_ble_eq_true rfl | (dsimp only [SC.len]; omega) | (simp; done) | (simp; omega) | omega) ?_ | refine rIdx rfl rfl rfl rfl rfl rfl rfl (by first | omega | decide | exact Nat.le_of_ble_eq_true rfl | (dsimp only [SC.len]; omega) | (simp; done) | (simp; omega) | omega) ?_ | refine rIdoN rfl rfl rfl rfl rfl rfl rfl rfl (by first | omega | decide | exact Nat.le_of_ble_eq_true rfl | (dsimp only [SC.len]; omega) | (simp; done) | (simp; omega) | omega) ?_ | refine rIdo rfl rfl rfl rfl rfl rfl rfl rfl (by first | omega | decide | exact Nat.le_of_ble_eq_true rfl | (dsimp only [SC.len]; omega) | (simp; done) | (simp; omega) | omega) ?_ | refine rIdvN rfl rfl rfl rfl rfl rfl (by first | assumption | rfl) rfl ?_) | (refine kO 7 rfl ?_; first | refine rG (fun _ z => ⟨_, hp _, z⟩) ?_) | (refine kO 6 rfl ?_; first | refine rLen rfl rfl rfl rfl rfl rfl ?_ | refine rLenv rfl rfl rfl rfl rfl rfl ?_ | refine rLeno rfl rfl rfl rfl rfl rfl rfl ?_ | refine rLenov rfl rfl rfl rfl rfl rfl rfl ?_ | refine rG (fun _ z => z) ?_) | (refine kO 8 rfl ?_; first | refine rSlH rfl rfl rfl rfl rfl rfl rfl (by omega) ?_ | refine rSlL rfl rfl rfl rfl rfl rfl rfl (by omega) ?_ | refine rG (fun _ z => z) ?_) | refine oN ?_ | refine aS ?_ | refine aR ?_ | refine aK ?_ | refine aX ?_ | refine aB ?_ | refine aT ?_ | refine aC rfl ?_ | refine bT ?_ | refine bF ?_ | refine bPt (by omega) ?_ | refine bPf (by omega) ?_ | refine aL ?_ | refine aE ?_ | refine oY rfl rfl rfl ?_ | refine oZ rfl rfl rfl ?_ | refine oO rfl rfl rfl ?_ | refine oIt rfl rfl rfl (by omega) ?_ | refine oIf rfl rfl rfl (by omega) ?_ | refine oUt rfl rfl rfl (by omega) ?_ | refine oUf rfl rfl rfl (by omega) ?_ | refine dI (by kernel_rfl) ?_ | refine rG (fun _ z => ⟨(by (first | omega | decide | rfl | exact lnS (by omega) | exact lnN (by decide) | exact lnN (by omega) | exact lnC (by omega) | exact lvS (by omega) | exact lvN (by decide) | exact lvC (by omega) | exact uvS rfl | exact uvN rfl | ((try unfold SC.len); (try unfold SC.uni); (try unfold LIM); (try simp); (try omega); done) | omega)), z⟩) ?_ | refine rG (fun _ z => ⟨(by (first | omega | decide | rfl | exact lnS (by omega) | exact lnN (by decide) | exact lnN (by omega) | exact lnC (by omega) | exact lvS (by omega) | exact lvN (by decide) | exact lvC (by omega) | exact uvS rfl | exact uvN rfl | ((try unfold SC.len); (try unfold SC.uni); (try unfold LIM); (try simp); (try omega); done) | omega)), (by (first | omega | decide | rfl | exact lnS (by omega) | exact lnN (by decide) | exact lnN (by omega) | exact lnC (by omega) | exact lvS (by omega) | exact lvN (by decide) | exact lvC (by omega) | exact uvS rfl | exact uvN rfl | ((try unfold SC.len); (try unfold SC.uni); (try unfold LIM); (try simp); (try omega); done) | omega)), z⟩) ?_); (try conv => whnf))
    have hget : l.getD i 0 = l[i] := by simp [List.getD_eq_getElem?_getD, hlt]
    ((first | refine brp (fun h => ?_) (fun h => ?_) | refine opsA_ifp rfl rfl rfl (fun h => ?_) (fun h => ?_) | refine opsA_unlessp rfl rfl rfl (fun h => ?_) (fun h => ?_)) <;> (try conv => whnf)) <;> (repeat ((first | refine oP rfl ?_ | refine rP rfl (fun _ z => z) ?_ | (refine kO 1 rfl ?_; first | refine rAdd rfl rfl rfl (by omega) ?_ | refine rSub rfl rfl rfl (by omega) ?_ | refine rMul rfl rfl rfl (by omega) ?_ | refine rQuo rfl rfl rfl (by omega) ?_ | refine rRem rfl rfl rfl (by omega) ?_ | refine rQuo' rfl rfl rfl (by omega) ?_ | refine rRem' rfl rfl rfl (by omega) ?_ | refine rG (fun _ z => z) ?_) | (refine kO 2 rfl ?_; first | refine rNeg rfl rfl (by omega) ?_ | refine rG (fun _ z => z) ?_) | (refine kO 3 rfl ?_; first | refine rLdr rfl rfl rfl rfl rfl ?_ | refine rLdb rfl rfl rfl rfl rfl rfl rfl ?_ | refine rLdi rfl rfl rfl rfl rfl rfl (by first | omega | decide | exact Nat.le_of_ble_eq_true rfl | (dsimp only [SC.len]; omega) | (simp; done) | (simp; omega) | omega) ?_ | refine rG (fun _ z => z) ?_ | refine rG (fun _ z => ⟨_, rfl, z⟩) ?_) | (refine kO 4 rfl ?_; first | refine rSti rfl rfl rfl rfl rfl rfl (by first | omega | decide | exact Nat.le_of_ble_eq_true rfl | (dsimp only [SC.len]; omega) | (simp; done) | (simp; omega) | omega) ?_ | refine rG (fun _ z => z) ?_) | (refine kO 5 rfl ?_; first | refine rIdN rfl rfl rfl rfl rfl rfl rfl (by first | omega | decide | exact Nat.le_of_ble_eq_true rfl | (dsimp only [SC.len]; omega) | (simp; done) | (simp; omega) | omega) ?_ | refine rIdx rfl rfl rfl rfl rfl rfl rfl (by first | omega | decide | exact Nat.le_of_ble_eq_true rfl | (dsimp only [SC.len]; omega) | (simp; done) | (simp; omega) | omega) ?_ | refine rIdoN rfl rfl rfl rfl rfl rfl rfl rfl (by first | omega | decide | exact Nat.le_of_ble_eq_true rfl | (dsimp only [SC.len]; omega) | (simp; done) | (simp; omega) | omega) ?_ | refine rIdo rfl rfl rfl rfl rfl rfl rfl rfl (by first | omega | decide | exact Nat.le_of_ble_eq_true rfl | (dsimp only [SC.len]; omega) | (simp; done) | (simp; omega) | omega) ?_ | refine rIdvN rfl rfl rfl rfl rfl rfl (by first | assumption | rfl) rfl ?_) | (refine kO 6 rfl ?_; first | refine rLen rfl rfl rfl rfl rfl rfl ?_ | refine rLenv rfl rfl rfl rfl rfl rfl ?_ | refine rLeno rfl rfl rfl rfl rfl rfl rfl ?_ | refine rLenov rfl rfl rfl rfl rfl rfl rfl ?_ | refine rG (fun _ z => z) ?_) | (refine kO 8 rfl ?_; first | refine rSlH rfl rfl rfl rfl rfl rfl rfl (by omega) ?_ | refine rSlL rfl rfl rfl rfl rfl rfl rfl (by omega) ?_ | refine rG (fun _ z => z) ?_) | refine oN ?_ | refine aS ?_ | refine aR ?_ | refine aK ?_ | refine aX ?_ | refine aB ?_ | refine aT ?_ | refine aC rfl ?_ | refine bT ?_ | refine bF ?_ | refine bPt (by omega) ?_ | refine bPf (by omega) ?_ | refine aL ?_ | refine aE ?_ | refine oY rfl rfl rfl ?_ | refine oZ rfl rfl rfl ?_ | refine oO rfl rfl rfl ?_ | refine oIt rfl rfl rfl (by omega) ?_ | refine oIf rfl rfl rfl (by omega) ?_ | refine oUt rfl rfl rfl (by omega) ?_ | refine oUf rfl rfl rfl (by omega) ?_ | refine dI (by kernel_rfl) ?_ | refine rG (fun _ z => ⟨(by (first | omega | decide | rfl | exact lnS (by omega) | exact lnN (by decide) | exact lnN (by omega) | exact lnC (by omega) | exact lvS (by omega) | exact lvN (by decide) | exact lvC (by omega) | exact uvS rfl | exact uvN rfl | ((try unfold SC.len); (try unfold SC.uni); (try unfold LIM); (try simp); (try omega); done) | omega)), z⟩) ?_ | refine rG (fun _ z => ⟨(by (first | omega | decide | rfl | exact lnS (by omega) | exact lnN (by decide) | exact lnN (by omega) | exact lnC (by omega) | exact lvS (by omega) | exact lvN (by decide) | exact lvC (by omega) | exact uvS rfl | exact uvN rfl | ((try unfold SC.len); (try unfold SC.uni); (try unfold LIM); (try simp); (try omega); done) | omega)), (by (first | omega | decide | rfl | exact lnS (by omega) | exact lnN (by decide) | exact lnN (by omega) | exact lnC (by omega) | exact lvS (by omega) | exact lvN (by decide) | exact lvC (by omega) | exact uvS rfl | exact uvN rfl | ((try unfold SC.len); (try unfold SC.uni); (try unfold LIM); (try simp); (try omega); done) | omega)), z⟩) ?_); (try conv => whnf)))
    · have hany : l.any p = true := List.any_eq_true.2 ⟨l.getD i 0, getD_mem hlt, h⟩
      refine res_i ?_
      rw [if_pos hany]
      have : l.findIdx p = i := by
        rw [List.findIdx_eq hlt]
        refine ⟨by rw [← hget]; exact h, fun j hj => ?_⟩
        have := hf j hj
        simpa [List.getD_eq_getElem?_getD, show j < l.length by omega] using this
      rw [this]
    · refine ⟨i + 1, ⟨hlt, fun j hj => ?_⟩, by omega, canon_auto (by kernel_rfl)⟩
      by_cases e : j = i
      · subst e; simpa using h
      · exact hf j (by omega)
  · refine res_i ?_
    rw [if_neg]
    intro hany
    obtain ⟨x, hx, hpx⟩ := List.any_eq_true.1 hany
    obtain ⟨j, hj, rfl⟩ := List.mem_iff_getElem.1 hx
    have := hf j (by omega)
    simp [List.getD_eq_getElem?_getD, hj, hpx] at this
theorem containsFunc_sat (l : List Int) (g : FuncId) (first : List (Bool × List SC)) (caps : List (List SC)) (p : Int → Bool) (hp : ∀ n, Sat cx.P cx.gl g (first ++ [I n] ++ caps.map fun cs => (false, [.ref cs])) (.one (Bo (p n)))) (hl : l.length ≤ maxLen) :
    Sat cx.P cx.gl 92 [L l, (false, [.fn g first caps])] (.one (Bo (l.any p))) := by
  refine Sat_of_awp (fn := f92) cx_ok (by kernel_rfl) (by kernel_rfl) rfl (by kernel_rfl) (Nat.le_of_ble_eq_true rfl) ?_
  repeat' ((first | refine oP rfl ?_ | refine rP rfl (fun _ z => z) ?_ | (refine kO 1 rfl ?_; first | refine rAdd rfl rfl rfl (by omega) ?_ | refine rSub rfl rfl rfl (by omega) ?_ | refine rMul rfl rfl rfl (by omega) ?_ | refine rQuo rfl rfl rfl (by omega) ?_ | refine rRem rfl rfl rfl (by omega) ?_ | refine rQuo' rfl rfl rfl (by omega) ?_ | refine rRem' rfl rfl rfl (by omega) ?_ | refine rG (fun _ z => z) ?_) | (refine kO 2 rfl ?_; first | refine rNeg rfl rfl (by omega) ?_ | refine rG (fun _ z => z) ?_) | (refine kO 3 rfl ?_; first | refine rLdr rfl rfl rfl rfl rfl ?_ | refine rLdb rfl rfl rfl rfl rfl rfl rfl ?_ | refine rLdi rfl rfl rfl rfl rfl rfl (by first | omega | decide | exact Nat.le_of_ble_eq_true rfl | (dsimp only [SC.len]; omega) | (simp; done) | (simp; omega) | omega) ?_ | refine rG (fun _ z => z) ?_ | refine rG (fun _ z => ⟨_, rfl, z⟩) ?_) | (refine kO 4 rfl ?_; first | refine rSti rfl rfl rfl rfl rfl rfl (by first | omega | decide | exact Nat.le_of_ble_eq_true rfl | (dsimp only [SC.len]; omega) | (simp; done) | (simp; omega) | omega) ?_ | refine rG (fun _ z => z) ?_) | (refine kO 5 rfl ?_; first | refine rIdN rfl rfl rfl rfl rfl rfl rfl (by first | omega | decide | exact Nat.le_of_ble_eq_true rfl | (dsimp only [SC.len]; omega) | (simp; done) | (simp; omega) | omega) ?_ | refine rIdx rfl rfl rfl rfl rfl rfl rfl (by first | omega | decide | exact Nat.le_of_ble_eq_true rfl | (dsimp only [SC.len]; omega) | (simp; done) | (simp; omega) | omega) ?_ | refine rIdoN rfl rfl rfl rfl rfl rfl rfl rfl (by first | omega | decide | exact Nat.le_of_ble_eq_true rfl | (dsimp only [SC.len]; omega) | (simp; done) | (simp; omega) | omega) ?_ | refine rIdo rfl rfl rfl rfl rfl rfl rfl rfl (by first | omega | decide | exact Nat.le_of_ble_eq_true rfl | (dsimp only [SC.len]; omega) | (simp; done) | (simp; omega) | omega) ?_ | refine rIdvN rfl rfl rfl rfl rfl rfl (by first | assumption | rfl) rfl ?_) | (refine kO 7 rfl ?_; first | refine rG (fun _ z => ⟨_, indexFunc_sat l g first caps p hp hl, z⟩) ?_) | (refine kO 6 rfl ?_; first | refine rLen rfl rfl rfl rfl rfl rfl ?_ | refine rLenv rfl rfl rfl rfl rfl rfl ?_ | refine rLeno rfl rfl rfl rfl rfl rfl rfl ?_ | refine rLenov rfl rfl rfl rfl rfl rfl rfl ?_ | refine rG (fun _ z => z) ?_) | (refine kO 8 rfl ?_; first | refine rSlH rfl rfl rfl rfl rfl rfl rfl (by omega) ?_ | refine rSlL rfl rfl rfl rfl rfl rfl rfl (by omega) ?_ | refine rG (fun _ z => z) ?_) | refine oN ?_ | refine aS ?_ | refine aR ?_ | refine aK ?_ | refine aX ?_ | refine aB ?_ | refine aT ?_ | refine aC rfl ?_ | refine bT ?_ | refine bF ?_ | refine bPt (by omega) ?_ | refine bPf (by omega) ?_ | refine aL ?_ | refine aE ?_ | refine oY rfl rfl rfl ?_ | refine oZ rfl rfl rfl ?_ | refine oO rfl rfl rfl ?_ | refine oIt rfl rfl rfl (by omega) ?_ | refine oIf rfl rfl rfl (by omega) ?_ | refine oUt rfl rfl rfl (by omega) ?_ | refine oUf rfl rfl rfl (by omega) ?_ | refine dI (by kernel_rfl) ?_ | refine rG (fun _ z => ⟨(by (first | omega | decide | rfl | exact lnS (by omega) | exact lnN (by decide) | exact lnN (by omega) | exact lnC (by omega) | exact lvS (by omega) | exact lvN (by decide) | exact lvC (by omega) | exact uvS rfl | exact uvN rfl | ((try unfold SC.len); (try unfold SC.uni); (try unfold LIM); (try simp); (try omega); done) | omega)), z⟩) ?_ | refine rG (fun _ z => ⟨(by (first | omega | decide | rfl | exact lnS (by omega) | exact lnN (by decide) | exact lnN (by omega) | exact lnC (by omega) | exact lvS (by omega) | exact lvN (by decide) | exact lvC (by omega) | exact uvS rfl | exact uvN rfl | ((try unfold SC.len); (try unfold SC.uni); (try unfold LIM); (try simp); (try omega); done) | omega)), (by (first | omega | decide | rfl | exact lnS (by omega) | exact lnN (by decide) | exact lnN (by omega) | exact lnC (by omega) | exact lvS (by omega) | exact lvN (by decide) | exact lvC (by omega) | exact uvS rfl | exact uvN rfl | ((try unfold SC.len); (try unfold SC.uni); (try unfold LIM); (try simp); (try omega); done) | omega)), z⟩) ?_ | refine brp (fun h => ?_) (fun h => ?_) | refine opsA_ifp rfl rfl rfl (fun h => ?_) (fun h => ?_) | refine opsA_unlessp rfl rfl rfl (fun h => ?_) (fun h => ?_)) <;> (try conv => whnf))
  refine res_bo ?_
  cases l.any p
  · simp
  · simp
theorem any_out {l : List Int} {lo hi : Int} : (l.any fun n => !(decide (lo ≤ n) && decide (n ≤ hi))) = decide (¬ AllIn l lo hi) := by
  rw [Bool.eq_iff_iff, decide_eq_true_iff]
  rw [List.any_eq_true]
  unfold AllIn
  constructor
  · rintro ⟨x, hx, h⟩ hh
    have := hh x hx
    simp at h; omega
  · intro h
    apply Classical.byContradiction
    intro hn
    refine h fun n hm => ?_
    apply Classical.byContradiction
    intro hc
    exact hn ⟨n, hm, by simp; omega⟩
abbrev pP (id : Nat) : Option DV := some (one (.ptr id 0))
abbrev pO (id : Nat) : Option DV := some (one (.own id))
theorem fs_nz {n : Int} (h : n ≠ 0) (l : List Int) : fs (n :: l) = n := by simp [fs, h]
end Go.Proofs.Tryz

namespace Go.Proofs.Tryz
open Go.Fw Go.IntWalk Go.Plain
set_option maxRecDepth 100000
set_option maxHeartbeats 8000000
theorem within_p (n lo hi : Int) : Sat cx.P cx.gl 7 [I n, I lo, I hi] (.one (Bo (decide (lo ≤ n ∧ n ≤ hi)))) := by
  have := within_sat n lo hi
  rwa [← Bool.decide_and] at this
theorem askErr_mk {a b c d n m u l : Int} (hf : faultErr a b c d n m = 0) (hu : 0 ≤ u ∧ u ≤ 10000000) (hl : 1 ≤ l ∧ l ≤ 100000000) : askErr a b c d n m u l = 0 := by
  unfold askErr
  rw [if_neg (by omega), if_pos hu, if_pos hl]
end Go.Proofs.Tryz
