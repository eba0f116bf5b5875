/- Parts of the proof, joined. -/
import Derived.Test.YtflcnhmckeiacaaGreatDoorCx
import Derived.Test.YtflcnhmckeiacaaGreatDoorFc
import Derived.IntWalk
import Derived.Test.YtflcnhmckeiacaaGreatDoorM
import Derived.Test.YtflcnhmckeiacaaGreatDoorFd
import Derived.KernelRfl
namespace Go.Proofs.Tryz
open Go.Fw Go.IntWalk
abbrev I (n : Int) : SV := (false, [.lit (.int .i64 n)])
abbrev Bo (b : Bool) : SV := (false, [.lit (.bool b)])
abbrev vI (n : Int) : Option DV := some (.val (false, [.st (.lit (.int .i64 n))]))
abbrev J (n : Int) : SC := .lit (.int .i64 n)
abbrev F2 (a b : Int) : SV := (true, [J a, J b])
abbrev F6 (a b c d e f : Int) : SV := (true, [J a, J b, J c, J d, J e, J f])
theorem ints_elem {l : List Int} {i : Nat} (h : i < l.length) : (SC.ints l).elem (i : Int).toNat = some [J l[i]] := by
  simp [SC.elem, h]
theorem res_i {a b : Int} (h : a = b) : Res.one (I a) = .one (I b) := by rw [h]
theorem res_bo {a b : Bool} (h : a = b) : Res.one (Bo a) = .one (Bo b) := by rw [h]
theorem res_f2 {a b c d : Int} (h : a = c) (h' : b = d) : Res.one (F2 a b) = .one (F2 c d) := by rw [h, h']
def inR (n : Int) : Prop := -9223372036854775807 ≤ n ∧ n ≤ 9223372036854775807
def inI (n : Int) : Prop := -9223372036854775808 ≤ n ∧ n ≤ 9223372036854775807
theorem inR.i {n : Int} (h : inR n) : inI n := ⟨by have := h.1; omega, h.2⟩
theorem inR.ne {n : Int} (h : inR n) : n ≠ -9223372036854775808 := by have := h.1; omega

theorem within_sat (n lo hi : Int) : Sat cx.P cx.gl 38 [I n, I lo, I hi] (.one (Bo (decide (lo ≤ n) && decide (n ≤ hi)))) := by
  refine Sat_of_awp (fn := f38) cx_ok (by kernel_rfl) (by kernel_rfl) rfl (by kernel_rfl) (Nat.le_of_ble_eq_true rfl) ?_
  repeat (first | refine oP rfl ?_ | (refine rG (fun _ h => h) ?_; conv => whnf) | (refine oN ?_; conv => whnf) | refine aS ?_ | (refine aR ?_; conv => whnf) | (refine aK ?_; conv => whnf) | (refine aX ?_; conv => whnf) | refine aB ?_ | (refine aT ?_; conv => whnf) | refine aC rfl ?_ | refine bT ?_ | refine bF ?_ | refine aL ?_ | refine aE ?_ | refine oY rfl rfl rfl ?_ | (refine oZ rfl rfl rfl ?_; conv => whnf) | (refine oO rfl rfl rfl ?_; conv => whnf) | (refine dI (by kernel_rfl) ?_; conv => whnf) | (refine rG (fun _ h => ⟨by decide, h⟩) ?_; conv => whnf))
  refine opsA_if rfl rfl rfl (fun h => ?_) (fun h => ?_) <;> (try conv => whnf) <;> (repeat (first | refine oP rfl ?_ | (refine rG (fun _ h => h) ?_; conv => whnf) | (refine oN ?_; conv => whnf) | refine aS ?_ | (refine aR ?_; conv => whnf) | (refine aK ?_; conv => whnf) | (refine aX ?_; conv => whnf) | refine aB ?_ | (refine aT ?_; conv => whnf) | refine aC rfl ?_ | refine bT ?_ | refine bF ?_ | refine aL ?_ | refine aE ?_ | refine oY rfl rfl rfl ?_ | (refine oZ rfl rfl rfl ?_; conv => whnf) | (refine oO rfl rfl rfl ?_; conv => whnf) | (refine dI (by kernel_rfl) ?_; conv => whnf) | (refine rG (fun _ h => ⟨by decide, h⟩) ?_; conv => whnf)))
  · simp [h, Bo]
  · simp [h, Bo]
theorem size_sat (n : Int) (h0 : -9223372036854775807 ≤ n) (h1 : n ≤ 9223372036854775807) : Sat cx.P cx.gl 79 [I n] (.one (I n.natAbs)) := by
  refine Sat_of_awp (fn := f79) cx_ok (by kernel_rfl) (by kernel_rfl) rfl (by kernel_rfl) (Nat.le_of_ble_eq_true rfl) ?_
  repeat (first | refine oP rfl ?_ | (refine rG (fun _ h => h) ?_; conv => whnf) | (refine oN ?_; conv => whnf) | refine aS ?_ | (refine aR ?_; conv => whnf) | (refine aK ?_; conv => whnf) | (refine aX ?_; conv => whnf) | refine aB ?_ | (refine aT ?_; conv => whnf) | refine aC rfl ?_ | refine bT ?_ | refine bF ?_ | refine aL ?_ | refine aE ?_ | refine oY rfl rfl rfl ?_ | (refine oZ rfl rfl rfl ?_; conv => whnf) | (refine oO rfl rfl rfl ?_; conv => whnf) | (refine dI (by kernel_rfl) ?_; conv => whnf) | (refine rG (fun _ h => ⟨by decide, h⟩) ?_; conv => whnf))
  have e : IntKind.i64.wrap (0 - n) = -n := by rw [i64_in _ (by omega)]; omega
  show Res.one (false, [SC.lit (Value.int .i64 (if IntKind.i64.wrap (0 - n) > n then IntKind.i64.wrap (0 - n) else n))]) = _
  rw [e]
  have : (if -n > n then -n else n) = n.natAbs := by split <;> omega
  rw [this]
theorem gcd_sat (a b : Int) (ha : inI a) (hb : inR b) (hab : a = -9223372036854775808 → b ≠ 0) : Sat cx.P cx.gl 93 [I a, I b] (.one (I (Int.gcd a b))) := by
  refine Sat_of_awp (fn := f93) cx_ok (by kernel_rfl) (by kernel_rfl) rfl (by kernel_rfl) (Nat.le_of_ble_eq_true rfl) ?_
  repeat (first | refine oP rfl ?_ | (refine rG (fun _ h => h) ?_; conv => whnf) | (refine oN ?_; conv => whnf) | refine aS ?_ | (refine aR ?_; conv => whnf) | (refine aK ?_; conv => whnf) | (refine aX ?_; conv => whnf) | refine aB ?_ | (refine aT ?_; conv => whnf) | refine aC rfl ?_ | refine bT ?_ | refine bF ?_ | refine aL ?_ | refine aE ?_ | refine oY rfl rfl rfl ?_ | (refine oZ rfl rfl rfl ?_; conv => whnf) | (refine oO rfl rfl rfl ?_; conv => whnf) | (refine dI (by kernel_rfl) ?_; conv => whnf) | (refine rG (fun _ h => ⟨by decide, h⟩) ?_; conv => whnf))
  refine loop_ind (ι := Int × Int) (fun p => Int.gcd p.1 p.2 = Int.gcd a b ∧ inI p.1 ∧ inR p.2 ∧ (p.1 = -9223372036854775808 → p.2 ≠ 0)) (fun p => p.2.natAbs) (fun p => ⟨[(0, vI p.1), (1, vI p.2)], [], 0⟩) (a, b)
    (canon_sub (ks := [0, 1]) (m := []) (n := 0) rfl) ⟨rfl, ha, hb, hab⟩ ?_
  rintro ⟨x, y⟩ ⟨hg, hx, hy, hxy⟩
  simp only at hg hx hy hxy
  repeat (first | refine oP rfl ?_ | (refine rG (fun _ h => h) ?_; conv => whnf) | (refine oN ?_; conv => whnf) | refine aS ?_ | (refine aR ?_; conv => whnf) | (refine aK ?_; conv => whnf) | (refine aX ?_; conv => whnf) | refine aB ?_ | (refine aT ?_; conv => whnf) | refine aC rfl ?_ | refine bT ?_ | refine bF ?_ | refine aL ?_ | refine aE ?_ | refine oY rfl rfl rfl ?_ | (refine oZ rfl rfl rfl ?_; conv => whnf) | (refine oO rfl rfl rfl ?_; conv => whnf) | (refine dI (by kernel_rfl) ?_; conv => whnf) | (refine rG (fun _ h => ⟨by decide, h⟩) ?_; conv => whnf))
  (first | refine br_intro (fun h => ?_) (fun h => ?_) | refine opsA_if rfl rfl rfl (fun h => ?_) (fun h => ?_) | refine opsA_unless rfl rfl rfl (fun h => ?_) (fun h => ?_)) <;> (try conv => whnf) <;> (repeat (first | refine oP rfl ?_ | (refine rG (fun _ h => h) ?_; conv => whnf) | (refine oN ?_; conv => whnf) | refine aS ?_ | (refine aR ?_; conv => whnf) | (refine aK ?_; conv => whnf) | (refine aX ?_; conv => whnf) | refine aB ?_ | (refine aT ?_; conv => whnf) | refine aC rfl ?_ | refine bT ?_ | refine bF ?_ | refine aL ?_ | refine aE ?_ | refine oY rfl rfl rfl ?_ | (refine oZ rfl rfl rfl ?_; conv => whnf) | (refine oO rfl rfl rfl ?_; conv => whnf) | (refine dI (by kernel_rfl) ?_; conv => whnf) | (refine rG (fun _ h => ⟨by decide, h⟩) ?_; conv => whnf)))
  · have h : (y != 0) = true := h
    have hne : y ≠ 0 := by simpa using h
    refine rG (fun _ h => ⟨hne, h⟩) ?_; (conv => whnf); repeat (first | refine oP rfl ?_ | (refine rG (fun _ h => h) ?_; conv => whnf) | (refine oN ?_; conv => whnf) | refine aS ?_ | (refine aR ?_; conv => whnf) | (refine aK ?_; conv => whnf) | (refine aX ?_; conv => whnf) | refine aB ?_ | (refine aT ?_; conv => whnf) | refine aC rfl ?_ | refine bT ?_ | refine bF ?_ | refine aL ?_ | refine aE ?_ | refine oY rfl rfl rfl ?_ | (refine oZ rfl rfl rfl ?_; conv => whnf) | (refine oO rfl rfl rfl ?_; conv => whnf) | (refine dI (by kernel_rfl) ?_; conv => whnf) | (refine rG (fun _ h => ⟨by decide, h⟩) ?_; conv => whnf))
    have hy1 := hy.1; have hy2 := hy.2
    refine ⟨(y, x.tmod y), ⟨?_, ⟨by simp only; omega, hy2⟩, ?_, fun e => absurd e (by simp only; omega)⟩, ?_, canon_sub (ks := [0, 1]) (m := []) (n := 0) rfl⟩
    · show Int.gcd y (x.tmod y) = _
      rw [← hg]
      show Nat.gcd y.natAbs (x.tmod y).natAbs = Nat.gcd x.natAbs y.natAbs
      rw [Int.natAbs_tmod, Nat.gcd_comm x.natAbs y.natAbs, Nat.gcd_rec y.natAbs x.natAbs, Nat.gcd_comm]
    · have h1 : (x.tmod y).natAbs = x.natAbs % y.natAbs := Int.natAbs_tmod _ _
      have h2 : x.natAbs % y.natAbs < y.natAbs := Nat.mod_lt _ (by omega)
      show -9223372036854775807 ≤ x.tmod y ∧ x.tmod y ≤ 9223372036854775807
      omega
    · show (x.tmod y).natAbs < y.natAbs
      rw [Int.natAbs_tmod]; exact Nat.mod_lt _ (by omega)
  · have h : (y != 0) = false := h
    have h0 : y = 0 := by simpa using h
    subst h0
    have hx1 := hx.1; have hx2 := hx.2
    have hx3 : x ≠ -9223372036854775808 := fun e => hxy e rfl
    refine rG (fun _ h => ⟨_, size_sat x (by omega) hx2, h⟩) ?_; (conv => whnf); repeat (first | refine oP rfl ?_ | (refine rG (fun _ h => h) ?_; conv => whnf) | (refine oN ?_; conv => whnf) | refine aS ?_ | (refine aR ?_; conv => whnf) | (refine aK ?_; conv => whnf) | (refine aX ?_; conv => whnf) | refine aB ?_ | (refine aT ?_; conv => whnf) | refine aC rfl ?_ | refine bT ?_ | refine bF ?_ | refine aL ?_ | refine aE ?_ | refine oY rfl rfl rfl ?_ | (refine oZ rfl rfl rfl ?_; conv => whnf) | (refine oO rfl rfl rfl ?_; conv => whnf) | (refine dI (by kernel_rfl) ?_; conv => whnf) | (refine rG (fun _ h => ⟨by decide, h⟩) ?_; conv => whnf))
    exact res_i (by rw [← hg]; simp)
theorem divisor_sat (a b : Int) (ha : inI a) (hb : inR b) (hab : a = -9223372036854775808 → b ≠ 0) : Sat cx.P cx.gl 74 [I a, I b] (.one (I (Int.gcd a b))) := by
  refine Sat_of_awp (fn := f74) cx_ok (by kernel_rfl) (by kernel_rfl) rfl (by kernel_rfl) (Nat.le_of_ble_eq_true rfl) ?_
  repeat (first | refine oP rfl ?_ | (refine rG (fun _ h => h) ?_; conv => whnf) | (refine oN ?_; conv => whnf) | refine aS ?_ | (refine aR ?_; conv => whnf) | (refine aK ?_; conv => whnf) | (refine aX ?_; conv => whnf) | refine aB ?_ | (refine aT ?_; conv => whnf) | refine aC rfl ?_ | refine bT ?_ | refine bF ?_ | refine aL ?_ | refine aE ?_ | refine oY rfl rfl rfl ?_ | (refine oZ rfl rfl rfl ?_; conv => whnf) | (refine oO rfl rfl rfl ?_; conv => whnf) | (refine dI (by kernel_rfl) ?_; conv => whnf) | (refine rG (fun _ h => ⟨by decide, h⟩) ?_; conv => whnf))
  refine loop_ind (ι := Int × Int) (fun p => Int.gcd p.1 p.2 = Int.gcd a b ∧ inI p.1 ∧ inR p.2 ∧ (p.1 = -9223372036854775808 → p.2 ≠ 0)) (fun p => p.2.natAbs) (fun p => ⟨[(0, vI p.1), (1, vI p.2)], [], 0⟩) (a, b)
    (canon_sub (ks := [0, 1]) (m := []) (n := 0) rfl) ⟨rfl, ha, hb, hab⟩ ?_
  rintro ⟨x, y⟩ ⟨hg, hx, hy, hxy⟩
  simp only at hg hx hy hxy
  repeat (first | refine oP rfl ?_ | (refine rG (fun _ h => h) ?_; conv => whnf) | (refine oN ?_; conv => whnf) | refine aS ?_ | (refine aR ?_; conv => whnf) | (refine aK ?_; conv => whnf) | (refine aX ?_; conv => whnf) | refine aB ?_ | (refine aT ?_; conv => whnf) | refine aC rfl ?_ | refine bT ?_ | refine bF ?_ | refine aL ?_ | refine aE ?_ | refine oY rfl rfl rfl ?_ | (refine oZ rfl rfl rfl ?_; conv => whnf) | (refine oO rfl rfl rfl ?_; conv => whnf) | (refine dI (by kernel_rfl) ?_; conv => whnf) | (refine rG (fun _ h => ⟨by decide, h⟩) ?_; conv => whnf))
  (first | refine br_intro (fun h => ?_) (fun h => ?_) | refine opsA_if rfl rfl rfl (fun h => ?_) (fun h => ?_) | refine opsA_unless rfl rfl rfl (fun h => ?_) (fun h => ?_)) <;> (try conv => whnf) <;> (repeat (first | refine oP rfl ?_ | (refine rG (fun _ h => h) ?_; conv => whnf) | (refine oN ?_; conv => whnf) | refine aS ?_ | (refine aR ?_; conv => whnf) | (refine aK ?_; conv => whnf) | (refine aX ?_; conv => whnf) | refine aB ?_ | (refine aT ?_; conv => whnf) | refine aC rfl ?_ | refine bT ?_ | refine bF ?_ | refine aL ?_ | refine aE ?_ | refine oY rfl rfl rfl ?_ | (refine oZ rfl rfl rfl ?_; conv => whnf) | (refine oO rfl rfl rfl ?_; conv => whnf) | (refine dI (by kernel_rfl) ?_; conv => whnf) | (refine rG (fun _ h => ⟨by decide, h⟩) ?_; conv => whnf)))
  · have h : (y != 0) = true := h
    have hne : y ≠ 0 := by simpa using h
    refine rG (fun _ h => ⟨hne, h⟩) ?_; (conv => whnf); repeat (first | refine oP rfl ?_ | (refine rG (fun _ h => h) ?_; conv => whnf) | (refine oN ?_; conv => whnf) | refine aS ?_ | (refine aR ?_; conv => whnf) | (refine aK ?_; conv => whnf) | (refine aX ?_; conv => whnf) | refine aB ?_ | (refine aT ?_; conv => whnf) | refine aC rfl ?_ | refine bT ?_ | refine bF ?_ | refine aL ?_ | refine aE ?_ | refine oY rfl rfl rfl ?_ | (refine oZ rfl rfl rfl ?_; conv => whnf) | (refine oO rfl rfl rfl ?_; conv => whnf) | (refine dI (by kernel_rfl) ?_; conv => whnf) | (refine rG (fun _ h => ⟨by decide, h⟩) ?_; conv => whnf))
    have hy1 := hy.1; have hy2 := hy.2
    refine ⟨(y, x.tmod y), ⟨?_, ⟨by simp only; omega, hy2⟩, ?_, fun e => absurd e (by simp only; omega)⟩, ?_, canon_sub (ks := [0, 1]) (m := []) (n := 0) rfl⟩
    · show Int.gcd y (x.tmod y) = _
      rw [← hg]
      show Nat.gcd y.natAbs (x.tmod y).natAbs = Nat.gcd x.natAbs y.natAbs
      rw [Int.natAbs_tmod, Nat.gcd_comm x.natAbs y.natAbs, Nat.gcd_rec y.natAbs x.natAbs, Nat.gcd_comm]
    · have h1 : (x.tmod y).natAbs = x.natAbs % y.natAbs := Int.natAbs_tmod _ _
      have h2 : x.natAbs % y.natAbs < y.natAbs := Nat.mod_lt _ (by omega)
      show -9223372036854775807 ≤ x.tmod y ∧ x.tmod y ≤ 9223372036854775807
      omega
    · show (x.tmod y).natAbs < y.natAbs
      rw [Int.natAbs_tmod]; exact Nat.mod_lt _ (by omega)
  · have h : (y != 0) = false := h
    have h0 : y = 0 := by simpa using h
    subst h0
    have hx1 := hx.1; have hx2 := hx.2
    have hx3 : x ≠ -9223372036854775808 := fun e => hxy e rfl
    have e : IntKind.i64.wrap (0 - x) = -x := by rw [i64_in _ (by omega)]; omega
    show Res.one (I (if IntKind.i64.wrap (0 - x) > x then IntKind.i64.wrap (0 - x) else x)) = Res.one (I (Int.gcd a b))
    refine res_i ?_
    rw [← hg, e]
    have : (if -x > x then -x else x) = x.natAbs := by split <;> omega
    rw [this]; simp
end Go.Proofs.Tryz

namespace Go.Proofs.Tryz
open Go.Fw Go.IntWalk
set_option maxRecDepth 100000
set_option maxHeartbeats 4000000
theorem within52_sat (n lo hi : Int) : Sat cx.P cx.gl 57 [I n, I lo, I hi] (.one (Bo (decide (lo ≤ n) && decide (n ≤ hi)))) := by
  refine Sat_of_awp (fn := f57) cx_ok (by kernel_rfl) (by kernel_rfl) rfl (by kernel_rfl) (Nat.le_of_ble_eq_true rfl) ?_
  repeat (first | refine oP rfl ?_ | (refine rG (fun _ h => h) ?_; conv => whnf) | (refine oN ?_; conv => whnf) | refine aS ?_ | (refine aR ?_; conv => whnf) | (refine aK ?_; conv => whnf) | (refine aX ?_; conv => whnf) | refine aB ?_ | (refine aT ?_; conv => whnf) | refine aC rfl ?_ | refine bT ?_ | refine bF ?_ | refine aL ?_ | refine aE ?_ | refine oY rfl rfl rfl ?_ | (refine oZ rfl rfl rfl ?_; conv => whnf) | (refine oO rfl rfl rfl ?_; conv => whnf) | (refine dI (by kernel_rfl) ?_; conv => whnf) | (refine rG (fun _ h => ⟨by decide, h⟩) ?_; conv => whnf))
  (first | refine br_intro (fun h => ?_) (fun h => ?_) | refine opsA_if rfl rfl rfl (fun h => ?_) (fun h => ?_) | refine opsA_unless rfl rfl rfl (fun h => ?_) (fun h => ?_)) <;> (try conv => whnf) <;> (repeat (first | refine oP rfl ?_ | (refine rG (fun _ h => h) ?_; conv => whnf) | (refine oN ?_; conv => whnf) | refine aS ?_ | (refine aR ?_; conv => whnf) | (refine aK ?_; conv => whnf) | (refine aX ?_; conv => whnf) | refine aB ?_ | (refine aT ?_; conv => whnf) | refine aC rfl ?_ | refine bT ?_ | refine bF ?_ | refine aL ?_ | refine aE ?_ | refine oY rfl rfl rfl ?_ | (refine oZ rfl rfl rfl ?_; conv => whnf) | (refine oO rfl rfl rfl ?_; conv => whnf) | (refine dI (by kernel_rfl) ?_; conv => whnf) | (refine rG (fun _ h => ⟨by decide, h⟩) ?_; conv => whnf)))
  · simp [h, Bo]
  · simp [h, Bo]
theorem size73_sat (n : Int) (h0 : -9223372036854775807 ≤ n) (h1 : n ≤ 9223372036854775807) : Sat cx.P cx.gl 62 [I n] (.one (I n.natAbs)) := by
  refine Sat_of_awp (fn := f62) cx_ok (by kernel_rfl) (by kernel_rfl) rfl (by kernel_rfl) (Nat.le_of_ble_eq_true rfl) ?_
  repeat (first | refine oP rfl ?_ | (refine rG (fun _ h => h) ?_; conv => whnf) | (refine oN ?_; conv => whnf) | refine aS ?_ | (refine aR ?_; conv => whnf) | (refine aK ?_; conv => whnf) | (refine aX ?_; conv => whnf) | refine aB ?_ | (refine aT ?_; conv => whnf) | refine aC rfl ?_ | refine bT ?_ | refine bF ?_ | refine aL ?_ | refine aE ?_ | refine oY rfl rfl rfl ?_ | (refine oZ rfl rfl rfl ?_; conv => whnf) | (refine oO rfl rfl rfl ?_; conv => whnf) | (refine dI (by kernel_rfl) ?_; conv => whnf) | (refine rG (fun _ h => ⟨by decide, h⟩) ?_; conv => whnf))
  have e : IntKind.i64.wrap (0 - n) = -n := by rw [i64_in _ (by omega)]; omega
  show Res.one (false, [SC.lit (Value.int .i64 (if IntKind.i64.wrap (0 - n) > n then IntKind.i64.wrap (0 - n) else n))]) = _
  rw [e]
  have : (if -n > n then -n else n) = n.natAbs := by split <;> omega
  rw [this]
theorem whole_sat (n : Int) : Sat cx.P cx.gl 27 [I n] (.one (F2 n 1)) := by
  refine Sat_of_awp (fn := f27) cx_ok (by kernel_rfl) (by kernel_rfl) rfl (by kernel_rfl) (Nat.le_of_ble_eq_true rfl) ?_
  repeat (first | refine oP rfl ?_ | (refine rG (fun _ h => h) ?_; conv => whnf) | (refine oN ?_; conv => whnf) | refine aS ?_ | (refine aR ?_; conv => whnf) | (refine aK ?_; conv => whnf) | (refine aX ?_; conv => whnf) | refine aB ?_ | (refine aT ?_; conv => whnf) | refine aC rfl ?_ | refine bT ?_ | refine bF ?_ | refine aL ?_ | refine aE ?_ | refine oY rfl rfl rfl ?_ | (refine oZ rfl rfl rfl ?_; conv => whnf) | (refine oO rfl rfl rfl ?_; conv => whnf) | (refine dI (by kernel_rfl) ?_; conv => whnf) | (refine rG (fun _ h => ⟨by decide, h⟩) ?_; conv => whnf))
  rfl
theorem unless_sat (b : Bool) (e : Int) : Sat cx.P cx.gl 41 [Bo b, I e] (.one (I (if b then 0 else e))) := by
  refine Sat_of_awp (fn := f41) cx_ok (by kernel_rfl) (by kernel_rfl) rfl (by kernel_rfl) (Nat.le_of_ble_eq_true rfl) ?_
  repeat (first | refine oP rfl ?_ | (refine rG (fun _ h => h) ?_; conv => whnf) | (refine oN ?_; conv => whnf) | refine aS ?_ | (refine aR ?_; conv => whnf) | (refine aK ?_; conv => whnf) | (refine aX ?_; conv => whnf) | refine aB ?_ | (refine aT ?_; conv => whnf) | refine aC rfl ?_ | refine bT ?_ | refine bF ?_ | refine aL ?_ | refine aE ?_ | refine oY rfl rfl rfl ?_ | (refine oZ rfl rfl rfl ?_; conv => whnf) | (refine oO rfl rfl rfl ?_; conv => whnf) | (refine dI (by kernel_rfl) ?_; conv => whnf) | (refine rG (fun _ h => ⟨by decide, h⟩) ?_; conv => whnf))
  (first | refine br_intro (fun h => ?_) (fun h => ?_) | refine opsA_if rfl rfl rfl (fun h => ?_) (fun h => ?_) | refine opsA_unless rfl rfl rfl (fun h => ?_) (fun h => ?_)) <;> (try conv => whnf) <;> (repeat (first | refine oP rfl ?_ | (refine rG (fun _ h => h) ?_; conv => whnf) | (refine oN ?_; conv => whnf) | refine aS ?_ | (refine aR ?_; conv => whnf) | (refine aK ?_; conv => whnf) | (refine aX ?_; conv => whnf) | refine aB ?_ | (refine aT ?_; conv => whnf) | refine aC rfl ?_ | refine bT ?_ | refine bF ?_ | refine aL ?_ | refine aE ?_ | refine oY rfl rfl rfl ?_ | (refine oZ rfl rfl rfl ?_; conv => whnf) | (refine oO rfl rfl rfl ?_; conv => whnf) | (refine dI (by kernel_rfl) ?_; conv => whnf) | (refine rG (fun _ h => ⟨by decide, h⟩) ?_; conv => whnf)))
  · exact res_i (by simp [h])
  · exact res_i (by simp [h])
theorem unitErr_sat (n : Int) : Sat cx.P cx.gl 63 [I n] (.one (I (if 0 ≤ n ∧ n ≤ 10000000 then 0 else 2))) := by
  refine Sat_of_awp (fn := f63) cx_ok (by kernel_rfl) (by kernel_rfl) rfl (by kernel_rfl) (Nat.le_of_ble_eq_true rfl) ?_
  repeat (first | refine oP rfl ?_ | (refine rG (fun _ h => h) ?_; conv => whnf) | (refine oN ?_; conv => whnf) | refine aS ?_ | (refine aR ?_; conv => whnf) | (refine aK ?_; conv => whnf) | (refine aX ?_; conv => whnf) | refine aB ?_ | (refine aT ?_; conv => whnf) | refine aC rfl ?_ | refine bT ?_ | refine bF ?_ | refine aL ?_ | refine aE ?_ | refine oY rfl rfl rfl ?_ | (refine oZ rfl rfl rfl ?_; conv => whnf) | (refine oO rfl rfl rfl ?_; conv => whnf) | (refine dI (by kernel_rfl) ?_; conv => whnf) | (refine rG (fun _ h => ⟨by decide, h⟩) ?_; conv => whnf))
  refine rG (fun _ h => ⟨_, within52_sat _ _ _, h⟩) ?_; (conv => whnf); repeat (first | refine oP rfl ?_ | (refine rG (fun _ h => h) ?_; conv => whnf) | (refine oN ?_; conv => whnf) | refine aS ?_ | (refine aR ?_; conv => whnf) | (refine aK ?_; conv => whnf) | (refine aX ?_; conv => whnf) | refine aB ?_ | (refine aT ?_; conv => whnf) | refine aC rfl ?_ | refine bT ?_ | refine bF ?_ | refine aL ?_ | refine aE ?_ | refine oY rfl rfl rfl ?_ | (refine oZ rfl rfl rfl ?_; conv => whnf) | (refine oO rfl rfl rfl ?_; conv => whnf) | (refine dI (by kernel_rfl) ?_; conv => whnf) | (refine rG (fun _ h => ⟨by decide, h⟩) ?_; conv => whnf))
  refine rG (fun _ h => ⟨_, unless_sat _ _, h⟩) ?_; (conv => whnf); repeat (first | refine oP rfl ?_ | (refine rG (fun _ h => h) ?_; conv => whnf) | (refine oN ?_; conv => whnf) | refine aS ?_ | (refine aR ?_; conv => whnf) | (refine aK ?_; conv => whnf) | (refine aX ?_; conv => whnf) | refine aB ?_ | (refine aT ?_; conv => whnf) | refine aC rfl ?_ | refine bT ?_ | refine bF ?_ | refine aL ?_ | refine aE ?_ | refine oY rfl rfl rfl ?_ | (refine oZ rfl rfl rfl ?_; conv => whnf) | (refine oO rfl rfl rfl ?_; conv => whnf) | (refine dI (by kernel_rfl) ?_; conv => whnf) | (refine rG (fun _ h => ⟨by decide, h⟩) ?_; conv => whnf))
  exact res_i (by simp)
theorem isEnd_sat (lo hi n : Int) : Sat cx.P cx.gl 73 [F2 lo hi, I n] (.one (Bo (decide (n ≤ lo ∧ lo ≤ 1000 ∧ n ≤ hi ∧ hi ≤ 1000)))) := by
  refine Sat_of_awp (fn := f73) cx_ok (by kernel_rfl) (by kernel_rfl) rfl (by kernel_rfl) (Nat.le_of_ble_eq_true rfl) ?_
  repeat (first | refine oP rfl ?_ | (refine rG (fun _ h => h) ?_; conv => whnf) | (refine oN ?_; conv => whnf) | refine aS ?_ | (refine aR ?_; conv => whnf) | (refine aK ?_; conv => whnf) | (refine aX ?_; conv => whnf) | refine aB ?_ | (refine aT ?_; conv => whnf) | refine aC rfl ?_ | refine bT ?_ | refine bF ?_ | refine aL ?_ | refine aE ?_ | refine oY rfl rfl rfl ?_ | (refine oZ rfl rfl rfl ?_; conv => whnf) | (refine oO rfl rfl rfl ?_; conv => whnf) | (refine dI (by kernel_rfl) ?_; conv => whnf) | (refine rG (fun _ h => ⟨by decide, h⟩) ?_; conv => whnf))
  refine rG (fun _ h => ⟨_, within52_sat _ _ _, h⟩) ?_; (conv => whnf); repeat (first | refine oP rfl ?_ | (refine rG (fun _ h => h) ?_; conv => whnf) | (refine oN ?_; conv => whnf) | refine aS ?_ | (refine aR ?_; conv => whnf) | (refine aK ?_; conv => whnf) | (refine aX ?_; conv => whnf) | refine aB ?_ | (refine aT ?_; conv => whnf) | refine aC rfl ?_ | refine bT ?_ | refine bF ?_ | refine aL ?_ | refine aE ?_ | refine oY rfl rfl rfl ?_ | (refine oZ rfl rfl rfl ?_; conv => whnf) | (refine oO rfl rfl rfl ?_; conv => whnf) | (refine dI (by kernel_rfl) ?_; conv => whnf) | (refine rG (fun _ h => ⟨by decide, h⟩) ?_; conv => whnf))
  (first | refine br_intro (fun h => ?_) (fun h => ?_) | refine opsA_if rfl rfl rfl (fun h => ?_) (fun h => ?_) | refine opsA_unless rfl rfl rfl (fun h => ?_) (fun h => ?_)) <;> (try conv => whnf) <;> (repeat (first | refine oP rfl ?_ | (refine rG (fun _ h => h) ?_; conv => whnf) | (refine oN ?_; conv => whnf) | refine aS ?_ | (refine aR ?_; conv => whnf) | (refine aK ?_; conv => whnf) | (refine aX ?_; conv => whnf) | refine aB ?_ | (refine aT ?_; conv => whnf) | refine aC rfl ?_ | refine bT ?_ | refine bF ?_ | refine aL ?_ | refine aE ?_ | refine oY rfl rfl rfl ?_ | (refine oZ rfl rfl rfl ?_; conv => whnf) | (refine oO rfl rfl rfl ?_; conv => whnf) | (refine dI (by kernel_rfl) ?_; conv => whnf) | (refine rG (fun _ h => ⟨by decide, h⟩) ?_; conv => whnf)))
  · refine rG (fun _ h => ⟨_, within52_sat _ _ _, h⟩) ?_; (conv => whnf); repeat (first | refine oP rfl ?_ | (refine rG (fun _ h => h) ?_; conv => whnf) | (refine oN ?_; conv => whnf) | refine aS ?_ | (refine aR ?_; conv => whnf) | (refine aK ?_; conv => whnf) | (refine aX ?_; conv => whnf) | refine aB ?_ | (refine aT ?_; conv => whnf) | refine aC rfl ?_ | refine bT ?_ | refine bF ?_ | refine aL ?_ | refine aE ?_ | refine oY rfl rfl rfl ?_ | (refine oZ rfl rfl rfl ?_; conv => whnf) | (refine oO rfl rfl rfl ?_; conv => whnf) | (refine dI (by kernel_rfl) ?_; conv => whnf) | (refine rG (fun _ h => ⟨by decide, h⟩) ?_; conv => whnf))
    simp at h
    exact res_bo (by simp [h])
  · have h' : ¬ (n ≤ lo ∧ lo ≤ 1000) := by simpa using h
    refine res_bo (by simp; omega)
abbrev vL (l : List Int) : Option DV := some (.val (false, [.st (.ints l)]))
theorem first_sat (l : List Int) (hl : l.length ≤ 1000000) : Sat cx.P cx.gl 40 [(false, [.ints l])] (.one (I ((l.find? (· ≠ 0)).getD 0))) := by
  refine Sat_of_awp (fn := f40) cx_ok (by kernel_rfl) (by kernel_rfl) rfl (by kernel_rfl) (Nat.le_of_ble_eq_true rfl) ?_
  repeat (first | refine oP rfl ?_ | (refine rG (fun _ h => h) ?_; conv => whnf) | (refine oN ?_; conv => whnf) | refine aS ?_ | (refine aR ?_; conv => whnf) | (refine aK ?_; conv => whnf) | (refine aX ?_; conv => whnf) | refine aB ?_ | (refine aT ?_; conv => whnf) | refine aC rfl ?_ | refine bT ?_ | refine bF ?_ | refine aL ?_ | refine aE ?_ | refine oY rfl rfl rfl ?_ | (refine oZ rfl rfl rfl ?_; conv => whnf) | (refine oO rfl rfl rfl ?_; conv => whnf) | (refine dI (by kernel_rfl) ?_; conv => whnf) | (refine rG (fun _ h => ⟨by decide, h⟩) ?_; conv => whnf))
  refine loop_ind (ι := Nat) (fun i => i ≤ l.length ∧ l.find? (· ≠ 0) = (l.drop i).find? (· ≠ 0)) (fun i => l.length - i) (fun i => ⟨[(5, vL l), (6, vI l.length), (7, vI i)], [], 0⟩) 0
    (canon_sub (ks := [5, 6, 7]) (m := []) (n := 0) rfl) ⟨Nat.zero_le _, rfl⟩ ?_
  rintro i ⟨hi, hf⟩
  repeat (first | refine oP rfl ?_ | (refine rG (fun _ h => h) ?_; conv => whnf) | (refine oN ?_; conv => whnf) | refine aS ?_ | (refine aR ?_; conv => whnf) | (refine aK ?_; conv => whnf) | (refine aX ?_; conv => whnf) | refine aB ?_ | (refine aT ?_; conv => whnf) | refine aC rfl ?_ | refine bT ?_ | refine bF ?_ | refine aL ?_ | refine aE ?_ | refine oY rfl rfl rfl ?_ | (refine oZ rfl rfl rfl ?_; conv => whnf) | (refine oO rfl rfl rfl ?_; conv => whnf) | (refine dI (by kernel_rfl) ?_; conv => whnf) | (refine rG (fun _ h => ⟨by decide, h⟩) ?_; conv => whnf))
  (first | refine br_intro (fun h => ?_) (fun h => ?_) | refine opsA_if rfl rfl rfl (fun h => ?_) (fun h => ?_) | refine opsA_unless rfl rfl rfl (fun h => ?_) (fun h => ?_)) <;> (try conv => whnf) <;> (repeat (first | refine oP rfl ?_ | (refine rG (fun _ h => h) ?_; conv => whnf) | (refine oN ?_; conv => whnf) | refine aS ?_ | (refine aR ?_; conv => whnf) | (refine aK ?_; conv => whnf) | (refine aX ?_; conv => whnf) | refine aB ?_ | (refine aT ?_; conv => whnf) | refine aC rfl ?_ | refine bT ?_ | refine bF ?_ | refine aL ?_ | refine aE ?_ | refine oY rfl rfl rfl ?_ | (refine oZ rfl rfl rfl ?_; conv => whnf) | (refine oO rfl rfl rfl ?_; conv => whnf) | (refine dI (by kernel_rfl) ?_; conv => whnf) | (refine rG (fun _ h => ⟨by decide, h⟩) ?_; conv => whnf)))
  · have hlt : i < l.length := by simpa using h
    have hd : l.drop i = l[i] :: l.drop (i + 1) := List.drop_eq_getElem_cons hlt
    refine rG (fun _ h => ⟨Int.natCast_nonneg i, [J l[i]], ints_elem hlt, rfl, h⟩) ?_; (conv => whnf); repeat (first | refine oP rfl ?_ | (refine rG (fun _ h => h) ?_; conv => whnf) | (refine oN ?_; conv => whnf) | refine aS ?_ | (refine aR ?_; conv => whnf) | (refine aK ?_; conv => whnf) | (refine aX ?_; conv => whnf) | refine aB ?_ | (refine aT ?_; conv => whnf) | refine aC rfl ?_ | refine bT ?_ | refine bF ?_ | refine aL ?_ | refine aE ?_ | refine oY rfl rfl rfl ?_ | (refine oZ rfl rfl rfl ?_; conv => whnf) | (refine oO rfl rfl rfl ?_; conv => whnf) | (refine dI (by kernel_rfl) ?_; conv => whnf) | (refine rG (fun _ h => ⟨by decide, h⟩) ?_; conv => whnf))
    (first | refine br_intro (fun h => ?_) (fun h => ?_) | refine opsA_if rfl rfl rfl (fun h => ?_) (fun h => ?_) | refine opsA_unless rfl rfl rfl (fun h => ?_) (fun h => ?_)) <;> (try conv => whnf) <;> (repeat (first | refine oP rfl ?_ | (refine rG (fun _ h => h) ?_; conv => whnf) | (refine oN ?_; conv => whnf) | refine aS ?_ | (refine aR ?_; conv => whnf) | (refine aK ?_; conv => whnf) | (refine aX ?_; conv => whnf) | refine aB ?_ | (refine aT ?_; conv => whnf) | refine aC rfl ?_ | refine bT ?_ | refine bF ?_ | refine aL ?_ | refine aE ?_ | refine oY rfl rfl rfl ?_ | (refine oZ rfl rfl rfl ?_; conv => whnf) | (refine oO rfl rfl rfl ?_; conv => whnf) | (refine dI (by kernel_rfl) ?_; conv => whnf) | (refine rG (fun _ h => ⟨by decide, h⟩) ?_; conv => whnf)))
    · have h : (l[i] != 0) = true := h
      exact res_i (by simp at h; rw [hf, hd, List.find?_cons_of_pos (by simpa using h)]; rfl)
    · have h : (l[i] != 0) = false := h
      refine ⟨i + 1, ⟨hlt, ?_⟩, by omega, canon_sub (ks := [5, 6, 7]) (m := []) (n := 0) ?_⟩
      · rw [hf, hd]; simp at h; simp [h]
      · have e : IntKind.i64.wrap (i + 1) = ((i + 1 : Nat) : Int) := by rw [i64_in _ (by omega)]; simp
        rw [← e]; rfl
  · have h : decide ((i : Int) < l.length) = false := h
    have : i = l.length := by simp at h; omega
    subst this
    exact res_i (by rw [hf]; simp)
theorem quo_div {n g : Int} (hn : inR n) (_ : 0 < g) (hd : g ∣ n) : IntKind.i64.wrap (n.tdiv g) = n / g := by
  rw [Int.tdiv_eq_ediv_of_dvd hd]
  have h1 := hn.1; have h2 := hn.2
  have := Int.natAbs_ediv_le_natAbs n g
  exact i64_in _ (by omega)
theorem lowest_sat (n d : Int) (hn : inR n) (hd : 0 < d ∧ d ≤ 9223372036854775807) : Sat cx.P cx.gl 68 [I n, I d] (.one (F2 (n / Int.gcd n d) (d / Int.gcd n d))) := by
  have hg : (0 : Int) < Int.gcd n d := by
    have := Int.gcd_pos_of_ne_zero_right n (show d ≠ 0 by omega); omega
  refine Sat_of_awp (fn := f68) cx_ok (by kernel_rfl) (by kernel_rfl) rfl (by kernel_rfl) (Nat.le_of_ble_eq_true rfl) ?_
  repeat (first | refine oP rfl ?_ | (refine rG (fun _ h => h) ?_; conv => whnf) | (refine oN ?_; conv => whnf) | refine aS ?_ | (refine aR ?_; conv => whnf) | (refine aK ?_; conv => whnf) | (refine aX ?_; conv => whnf) | refine aB ?_ | (refine aT ?_; conv => whnf) | refine aC rfl ?_ | refine bT ?_ | refine bF ?_ | refine aL ?_ | refine aE ?_ | refine oY rfl rfl rfl ?_ | (refine oZ rfl rfl rfl ?_; conv => whnf) | (refine oO rfl rfl rfl ?_; conv => whnf) | (refine dI (by kernel_rfl) ?_; conv => whnf) | (refine rG (fun _ h => ⟨by decide, h⟩) ?_; conv => whnf))
  refine rG (fun _ h => ⟨_, divisor_sat n d hn.i ⟨by omega, by omega⟩ (fun e => absurd e hn.ne), h⟩) ?_; (conv => whnf); repeat (first | refine oP rfl ?_ | (refine rG (fun _ h => h) ?_; conv => whnf) | (refine oN ?_; conv => whnf) | refine aS ?_ | (refine aR ?_; conv => whnf) | (refine aK ?_; conv => whnf) | (refine aX ?_; conv => whnf) | refine aB ?_ | (refine aT ?_; conv => whnf) | refine aC rfl ?_ | refine bT ?_ | refine bF ?_ | refine aL ?_ | refine aE ?_ | refine oY rfl rfl rfl ?_ | (refine oZ rfl rfl rfl ?_; conv => whnf) | (refine oO rfl rfl rfl ?_; conv => whnf) | (refine dI (by kernel_rfl) ?_; conv => whnf) | (refine rG (fun _ h => ⟨by decide, h⟩) ?_; conv => whnf))
  refine rG (fun _ h => ⟨Int.ne_of_gt hg, h⟩) ?_; (conv => whnf); repeat (first | refine oP rfl ?_ | (refine rG (fun _ h => h) ?_; conv => whnf) | (refine oN ?_; conv => whnf) | refine aS ?_ | (refine aR ?_; conv => whnf) | (refine aK ?_; conv => whnf) | (refine aX ?_; conv => whnf) | refine aB ?_ | (refine aT ?_; conv => whnf) | refine aC rfl ?_ | refine bT ?_ | refine bF ?_ | refine aL ?_ | refine aE ?_ | refine oY rfl rfl rfl ?_ | (refine oZ rfl rfl rfl ?_; conv => whnf) | (refine oO rfl rfl rfl ?_; conv => whnf) | (refine dI (by kernel_rfl) ?_; conv => whnf) | (refine rG (fun _ h => ⟨by decide, h⟩) ?_; conv => whnf))
  refine rG (fun _ h => ⟨Int.ne_of_gt hg, h⟩) ?_; (conv => whnf); repeat (first | refine oP rfl ?_ | (refine rG (fun _ h => h) ?_; conv => whnf) | (refine oN ?_; conv => whnf) | refine aS ?_ | (refine aR ?_; conv => whnf) | (refine aK ?_; conv => whnf) | (refine aX ?_; conv => whnf) | refine aB ?_ | (refine aT ?_; conv => whnf) | refine aC rfl ?_ | refine bT ?_ | refine bF ?_ | refine aL ?_ | refine aE ?_ | refine oY rfl rfl rfl ?_ | (refine oZ rfl rfl rfl ?_; conv => whnf) | (refine oO rfl rfl rfl ?_; conv => whnf) | (refine dI (by kernel_rfl) ?_; conv => whnf) | (refine rG (fun _ h => ⟨by decide, h⟩) ?_; conv => whnf))
  exact res_f2 (quo_div hn hg (Int.gcd_dvd_left ..)) (quo_div ⟨by omega, by omega⟩ hg (Int.gcd_dvd_right ..))
theorem Lowest_sat (n d : Int) (hn : inR n) (hd : 0 < d ∧ d ≤ 9223372036854775807) : Sat cx.P cx.gl 95 [I n, I d] (.one (F2 (n / Int.gcd n d) (d / Int.gcd n d))) := by
  have hg : (0 : Int) < Int.gcd n d := by
    have := Int.gcd_pos_of_ne_zero_right n (show d ≠ 0 by omega); omega
  refine Sat_of_awp (fn := f95) cx_ok (by kernel_rfl) (by kernel_rfl) rfl (by kernel_rfl) (Nat.le_of_ble_eq_true rfl) ?_
  repeat (first | refine oP rfl ?_ | (refine rG (fun _ h => h) ?_; conv => whnf) | (refine oN ?_; conv => whnf) | refine aS ?_ | (refine aR ?_; conv => whnf) | (refine aK ?_; conv => whnf) | (refine aX ?_; conv => whnf) | refine aB ?_ | (refine aT ?_; conv => whnf) | refine aC rfl ?_ | refine bT ?_ | refine bF ?_ | refine aL ?_ | refine aE ?_ | refine oY rfl rfl rfl ?_ | (refine oZ rfl rfl rfl ?_; conv => whnf) | (refine oO rfl rfl rfl ?_; conv => whnf) | (refine dI (by kernel_rfl) ?_; conv => whnf) | (refine rG (fun _ h => ⟨by decide, h⟩) ?_; conv => whnf))
  refine rG (fun _ h => ⟨_, gcd_sat n d hn.i ⟨by omega, by omega⟩ (fun e => absurd e hn.ne), h⟩) ?_; (conv => whnf); repeat (first | refine oP rfl ?_ | (refine rG (fun _ h => h) ?_; conv => whnf) | (refine oN ?_; conv => whnf) | refine aS ?_ | (refine aR ?_; conv => whnf) | (refine aK ?_; conv => whnf) | (refine aX ?_; conv => whnf) | refine aB ?_ | (refine aT ?_; conv => whnf) | refine aC rfl ?_ | refine bT ?_ | refine bF ?_ | refine aL ?_ | refine aE ?_ | refine oY rfl rfl rfl ?_ | (refine oZ rfl rfl rfl ?_; conv => whnf) | (refine oO rfl rfl rfl ?_; conv => whnf) | (refine dI (by kernel_rfl) ?_; conv => whnf) | (refine rG (fun _ h => ⟨by decide, h⟩) ?_; conv => whnf))
  (first | refine br_intro (fun h => ?_) (fun h => ?_) | refine opsA_if rfl rfl rfl (fun h => ?_) (fun h => ?_) | refine opsA_unless rfl rfl rfl (fun h => ?_) (fun h => ?_)) <;> (try conv => whnf) <;> (repeat (first | refine oP rfl ?_ | (refine rG (fun _ h => h) ?_; conv => whnf) | (refine oN ?_; conv => whnf) | refine aS ?_ | (refine aR ?_; conv => whnf) | (refine aK ?_; conv => whnf) | (refine aX ?_; conv => whnf) | refine aB ?_ | (refine aT ?_; conv => whnf) | refine aC rfl ?_ | refine bT ?_ | refine bF ?_ | refine aL ?_ | refine aE ?_ | refine oY rfl rfl rfl ?_ | (refine oZ rfl rfl rfl ?_; conv => whnf) | (refine oO rfl rfl rfl ?_; conv => whnf) | (refine dI (by kernel_rfl) ?_; conv => whnf) | (refine rG (fun _ h => ⟨by decide, h⟩) ?_; conv => whnf)))
  · have h : decide (d < 0) = true := h
    simp at h; omega
  · refine rG (fun _ h => ⟨Int.ne_of_gt hg, h⟩) ?_; (conv => whnf); repeat (first | refine oP rfl ?_ | (refine rG (fun _ h => h) ?_; conv => whnf) | (refine oN ?_; conv => whnf) | refine aS ?_ | (refine aR ?_; conv => whnf) | (refine aK ?_; conv => whnf) | (refine aX ?_; conv => whnf) | refine aB ?_ | (refine aT ?_; conv => whnf) | refine aC rfl ?_ | refine bT ?_ | refine bF ?_ | refine aL ?_ | refine aE ?_ | refine oY rfl rfl rfl ?_ | (refine oZ rfl rfl rfl ?_; conv => whnf) | (refine oO rfl rfl rfl ?_; conv => whnf) | (refine dI (by kernel_rfl) ?_; conv => whnf) | (refine rG (fun _ h => ⟨by decide, h⟩) ?_; conv => whnf))
    refine rG (fun _ h => ⟨Int.ne_of_gt hg, h⟩) ?_; (conv => whnf); repeat (first | refine oP rfl ?_ | (refine rG (fun _ h => h) ?_; conv => whnf) | (refine oN ?_; conv => whnf) | refine aS ?_ | (refine aR ?_; conv => whnf) | (refine aK ?_; conv => whnf) | (refine aX ?_; conv => whnf) | refine aB ?_ | (refine aT ?_; conv => whnf) | refine aC rfl ?_ | refine bT ?_ | refine bF ?_ | refine aL ?_ | refine aE ?_ | refine oY rfl rfl rfl ?_ | (refine oZ rfl rfl rfl ?_; conv => whnf) | (refine oO rfl rfl rfl ?_; conv => whnf) | (refine dI (by kernel_rfl) ?_; conv => whnf) | (refine rG (fun _ h => ⟨by decide, h⟩) ?_; conv => whnf))
    exact res_f2 (quo_div hn hg (Int.gcd_dvd_left ..)) (quo_div ⟨by omega, by omega⟩ hg (Int.gcd_dvd_right ..))
theorem isLowest_sat (n d : Int) (hn : inI n) (hd : inI d) : Sat cx.P cx.gl 69 [F2 n d] (.one (Bo (decide (0 < d ∧ Int.gcd n d = 1)))) := by
  refine Sat_of_awp (fn := f69) cx_ok (by kernel_rfl) (by kernel_rfl) rfl (by kernel_rfl) (Nat.le_of_ble_eq_true rfl) ?_
  repeat (first | refine oP rfl ?_ | (refine rG (fun _ h => h) ?_; conv => whnf) | (refine oN ?_; conv => whnf) | refine aS ?_ | (refine aR ?_; conv => whnf) | (refine aK ?_; conv => whnf) | (refine aX ?_; conv => whnf) | refine aB ?_ | (refine aT ?_; conv => whnf) | refine aC rfl ?_ | refine bT ?_ | refine bF ?_ | refine aL ?_ | refine aE ?_ | refine oY rfl rfl rfl ?_ | (refine oZ rfl rfl rfl ?_; conv => whnf) | (refine oO rfl rfl rfl ?_; conv => whnf) | (refine dI (by kernel_rfl) ?_; conv => whnf) | (refine rG (fun _ h => ⟨by decide, h⟩) ?_; conv => whnf))
  (first | refine br_intro (fun h => ?_) (fun h => ?_) | refine opsA_if rfl rfl rfl (fun h => ?_) (fun h => ?_) | refine opsA_unless rfl rfl rfl (fun h => ?_) (fun h => ?_)) <;> (try conv => whnf) <;> (repeat (first | refine oP rfl ?_ | (refine rG (fun _ h => h) ?_; conv => whnf) | (refine oN ?_; conv => whnf) | refine aS ?_ | (refine aR ?_; conv => whnf) | (refine aK ?_; conv => whnf) | (refine aX ?_; conv => whnf) | refine aB ?_ | (refine aT ?_; conv => whnf) | refine aC rfl ?_ | refine bT ?_ | refine bF ?_ | refine aL ?_ | refine aE ?_ | refine oY rfl rfl rfl ?_ | (refine oZ rfl rfl rfl ?_; conv => whnf) | (refine oO rfl rfl rfl ?_; conv => whnf) | (refine dI (by kernel_rfl) ?_; conv => whnf) | (refine rG (fun _ h => ⟨by decide, h⟩) ?_; conv => whnf)))
  · have h : decide (d > 0) = true := h
    simp at h
    have := hd.2
    refine rG (fun _ h => ⟨_, gcd_sat n d hn ⟨by omega, by omega⟩ (fun _ => by omega), h⟩) ?_; (conv => whnf); repeat (first | refine oP rfl ?_ | (refine rG (fun _ h => h) ?_; conv => whnf) | (refine oN ?_; conv => whnf) | refine aS ?_ | (refine aR ?_; conv => whnf) | (refine aK ?_; conv => whnf) | (refine aX ?_; conv => whnf) | refine aB ?_ | (refine aT ?_; conv => whnf) | refine aC rfl ?_ | refine bT ?_ | refine bF ?_ | refine aL ?_ | refine aE ?_ | refine oY rfl rfl rfl ?_ | (refine oZ rfl rfl rfl ?_; conv => whnf) | (refine oO rfl rfl rfl ?_; conv => whnf) | (refine dI (by kernel_rfl) ?_; conv => whnf) | (refine rG (fun _ h => ⟨by decide, h⟩) ?_; conv => whnf))
    exact res_bo (by rw [Bool.eq_iff_iff]; simp [h]; omega)
  · have h : decide (d > 0) = false := h
    simp at h
    exact res_bo (by simp; omega)
/-- The error of a fault. -/
def faultErr (a b c d n m : Int) : Int :=
  if ¬ (0 ≤ a ∧ a ≤ 1000 ∧ 0 ≤ b ∧ b ≤ 1000 ∧ 1 ≤ c ∧ c ≤ 1000 ∧ 1 ≤ d ∧ d ≤ 1000) then 2
  else if ¬ (a ≤ b ∧ c ≤ d) then 9
  else if ¬ (0 < m ∧ Int.gcd n m = 1) then 3
  else if ¬ (1 ≤ n ∧ n ≤ 100 ∧ m ≤ 100) then 2 else 0
theorem first4 (p q r s : Bool) (P Q R S : Prop) [Decidable P] [Decidable Q] [Decidable R] [Decidable S] (hp : p = true ↔ P) (hq : q = true ↔ Q) (hr : r = true ↔ R) (hs : s = true ↔ S) :
    (([if p = true then 0 else 2, if q = true then 0 else 9, if r = true then 0 else 3, if s = true then (0 : Int) else 2].find? (fun x => decide (x ≠ 0))).getD 0) = if ¬ P then 2 else if ¬ Q then 9 else if ¬ R then 3 else if ¬ S then 2 else 0 := by
  simp only [← hp, ← hq, ← hr, ← hs]
  cases p <;> cases q <;> cases r <;> cases s <;> rfl
theorem checkFault_sat (a b c d n m : Int) (hn : inI n) (hd : inI m) : Sat cx.P cx.gl 44 [F6 a b c d n m] (.one (I (faultErr a b c d n m))) := by
  have hm := hd.2
  refine Sat_of_awp (fn := f44) cx_ok (by kernel_rfl) (by kernel_rfl) rfl (by kernel_rfl) (Nat.le_of_ble_eq_true rfl) ?_
  repeat' (first | refine oP rfl ?_ | (refine rG (fun _ h => h) ?_; conv => whnf) | (refine oN ?_; conv => whnf) | refine aS ?_ | (refine aR ?_; conv => whnf) | (refine aK ?_; conv => whnf) | (refine aX ?_; conv => whnf) | refine aB ?_ | (refine aT ?_; conv => whnf) | refine aC rfl ?_ | refine bT ?_ | refine bF ?_ | refine aL ?_ | refine aE ?_ | refine oY rfl rfl rfl ?_ | (refine oZ rfl rfl rfl ?_; conv => whnf) | (refine oO rfl rfl rfl ?_; conv => whnf) | (refine dI (by kernel_rfl) ?_; conv => whnf) | (refine rG (fun _ h => ⟨by decide, h⟩) ?_; conv => whnf) | (refine rG (fun _ h => ⟨_, isEnd_sat _ _ _, h⟩) ?_; conv => whnf) | (refine rG (fun _ h => ⟨_, unless_sat _ _, h⟩) ?_; conv => whnf) | (refine rG (fun _ h => ⟨_, within52_sat _ _ _, h⟩) ?_; conv => whnf) | (refine rG (fun _ h => ⟨_, divisor_sat n m hn ⟨by simp at *; omega, hm⟩ (fun _ => by simp at *; omega), h⟩) ?_; conv => whnf) | (refine rG (fun _ h => ⟨_, first_sat _ (Nat.le_of_ble_eq_true rfl), h⟩) ?_; conv => whnf) | (refine br_intro (fun h => ?_) (fun h => ?_) <;> (try conv => whnf)) | (refine opsA_if rfl rfl rfl (fun h => ?_) (fun h => ?_) <;> (try conv => whnf)) | (refine opsA_unless rfl rfl rfl (fun h => ?_) (fun h => ?_) <;> (try conv => whnf)))
  all_goals refine res_i ?_
  all_goals refine first4 _ _ _ _ _ _ _ _ ?_ ?_ ?_ ?_
  all_goals simp only [decide_eq_true_eq, decide_eq_false_iff_not, Bool.and_eq_true, Bool.and_eq_false_iff, beq_iff_eq, Bool.false_eq_true, false_iff] at *
  all_goals omega
end Go.Proofs.Tryz

namespace Go.Proofs.Tryz
open Go.Fw Go.IntWalk
set_option maxRecDepth 100000
set_option maxHeartbeats 4000000
theorem faultErr_sat (a b c d n m : Int) (hn : inI n) (hd : inI m) : Sat cx.P cx.gl 39 [F6 a b c d n m] (.one (I (faultErr a b c d n m))) := by
  refine Sat_of_awp (fn := f39) cx_ok (by kernel_rfl) (by kernel_rfl) rfl (by kernel_rfl) (Nat.le_of_ble_eq_true rfl) ?_
  repeat' (first | refine oP rfl ?_ | (refine rG (fun _ h => h) ?_; conv => whnf) | (refine oN ?_; conv => whnf) | refine aS ?_ | (refine aR ?_; conv => whnf) | (refine aK ?_; conv => whnf) | (refine aX ?_; conv => whnf) | refine aB ?_ | (refine aT ?_; conv => whnf) | refine aC rfl ?_ | refine bT ?_ | refine bF ?_ | refine aL ?_ | refine aE ?_ | refine oY rfl rfl rfl ?_ | (refine oZ rfl rfl rfl ?_; conv => whnf) | (refine oO rfl rfl rfl ?_; conv => whnf) | (refine dI (by kernel_rfl) ?_; conv => whnf) | (refine rG (fun _ h => ⟨by decide, h⟩) ?_; conv => whnf) | (refine rG (fun _ h => ⟨_, within_sat _ _ _, h⟩) ?_; conv => whnf) | (refine rG (fun _ h => ⟨_, isLowest_sat n m hn hd, h⟩) ?_; conv => whnf) | (refine br_intro (fun h => ?_) (fun h => ?_) <;> (try conv => whnf)) | (refine opsA_if rfl rfl rfl (fun h => ?_) (fun h => ?_) <;> (try conv => whnf)) | (refine opsA_unless rfl rfl rfl (fun h => ?_) (fun h => ?_) <;> (try conv => whnf)))
  all_goals refine res_i ?_
  all_goals simp only [Bool.not_eq_true', Bool.not_eq_false', decide_eq_true_eq, decide_eq_false_iff_not, Bool.and_eq_true, Bool.and_eq_false_iff] at *
  all_goals unfold faultErr
  all_goals ((repeat' split) <;> omega)
theorem fault45_sat : Sat cx.P cx.gl 24 [] (.one (F6 100 110 20 25 5 2)) := by
  refine Sat_of_awp (fn := f24) cx_ok (by kernel_rfl) (by kernel_rfl) rfl (by kernel_rfl) (Nat.le_of_ble_eq_true rfl) ?_
  repeat (first | refine oP rfl ?_ | (refine rG (fun _ h => h) ?_; conv => whnf) | (refine oN ?_; conv => whnf) | refine aS ?_ | (refine aR ?_; conv => whnf) | (refine aK ?_; conv => whnf) | (refine aX ?_; conv => whnf) | refine aB ?_ | (refine aT ?_; conv => whnf) | refine aC rfl ?_ | refine bT ?_ | refine bF ?_ | refine aL ?_ | refine aE ?_ | refine oY rfl rfl rfl ?_ | (refine oZ rfl rfl rfl ?_; conv => whnf) | (refine oO rfl rfl rfl ?_; conv => whnf) | (refine dI (by kernel_rfl) ?_; conv => whnf) | (refine rG (fun _ h => ⟨by decide, h⟩) ?_; conv => whnf))
  rfl
end Go.Proofs.Tryz

namespace Go.Proofs.Tryz
open Go.Fw Go.IntWalk
set_option maxRecDepth 100000
set_option maxHeartbeats 4000000
/-- A fraction in lowest terms. -/
abbrev F4 (a b c d : Int) : SV := (true, [J a, J b, J c, J d])
def lowN (n d : Int) : Int := n / Int.gcd n d
def lowD (n d : Int) : Int := d / Int.gcd n d
theorem lowest71 {x y n d : Int} (hx : x = n) (hy : y = d) (hn : inR n) (hd : 0 < d ∧ d ≤ 9223372036854775807) : Sat cx.P cx.gl 68 [I x, I y] (.one (F2 (lowN n d) (lowD n d))) := by
  rw [hx, hy]; exact lowest_sat n d hn hd
theorem lowest56 {x y n d : Int} (hx : x = n) (hy : y = d) (hn : inR n) (hd : 0 < d ∧ d ≤ 9223372036854775807) : Sat cx.P cx.gl 95 [I x, I y] (.one (F2 (lowN n d) (lowD n d))) := by
  rw [hx, hy]; exact Lowest_sat n d hn hd
theorem peak1_sat (v z a b c d n m : Int) (hv : 0 ≤ v ∧ v ≤ 1000) (hz : 1 ≤ z ∧ z ≤ 1000) (hn : 1 ≤ n ∧ n ≤ 100) (hm : 1 ≤ m ∧ m ≤ 100) :
    Sat cx.P cx.gl 67 [I v, I z, (false, [.ref [J a, J b, J c, J d, J n, J m]])] (.one (F2 (lowN (v * n) (z * m)) (lowD (v * n) (z * m)))) := by
  have h1 : 0 ≤ v * n ∧ v * n ≤ 100000 := ⟨Int.mul_nonneg hv.1 (by omega), by have := Int.mul_le_mul hv.2 hn.2 (by omega) (by omega); omega⟩
  have h2 : 1 ≤ z * m ∧ z * m ≤ 100000 := ⟨by have := Int.mul_le_mul hz.1 hm.1 (by omega) (by omega); omega, by have := Int.mul_le_mul hz.2 hm.2 (by omega) (by omega); omega⟩
  refine Sat_of_awp (fn := f67) cx_ok (by kernel_rfl) (by kernel_rfl) rfl (by kernel_rfl) (Nat.le_of_ble_eq_true rfl) ?_
  have e1 : IntKind.i64.wrap (v * n) = v * n := i64_in _ (by omega)
  have e2 : IntKind.i64.wrap (z * m) = z * m := i64_in _ (by omega)
  repeat' (first | refine oP rfl ?_ | (refine rG (fun _ h => h) ?_; conv => whnf) | (refine oN ?_; conv => whnf) | refine aS ?_ | (refine aR ?_; conv => whnf) | (refine aK ?_; conv => whnf) | (refine aX ?_; conv => whnf) | refine aB ?_ | (refine aT ?_; conv => whnf) | refine aC rfl ?_ | refine bT ?_ | refine bF ?_ | refine aL ?_ | refine aE ?_ | refine oY rfl rfl rfl ?_ | (refine oZ rfl rfl rfl ?_; conv => whnf) | (refine oO rfl rfl rfl ?_; conv => whnf) | (refine dI (by kernel_rfl) ?_; conv => whnf) | (refine rG (fun _ h => ⟨by decide, h⟩) ?_; conv => whnf) | (refine rG (fun _ h => ⟨_, lowest71 e1 e2 ⟨by omega, by omega⟩ ⟨by omega, by omega⟩, h⟩) ?_; conv => whnf) | (refine br_intro (fun h => ?_) (fun h => ?_) <;> (try conv => whnf)) | (refine opsA_if rfl rfl rfl (fun h => ?_) (fun h => ?_) <;> (try conv => whnf)) | (refine opsA_unless rfl rfl rfl (fun h => ?_) (fun h => ?_) <;> (try conv => whnf)))
  rfl
theorem peak_sat (a b c d n m : Int) (h : faultErr a b c d n m = 0) : Sat cx.P cx.gl 35 [F6 a b c d n m] (.one (F4 (lowN (a * n) (d * m)) (lowD (a * n) (d * m)) (lowN (b * n) (c * m)) (lowD (b * n) (c * m)))) := by
  have hf : (0 ≤ a ∧ a ≤ 1000) ∧ (0 ≤ b ∧ b ≤ 1000) ∧ (1 ≤ c ∧ c ≤ 1000) ∧ (1 ≤ d ∧ d ≤ 1000) ∧ (1 ≤ n ∧ n ≤ 100) ∧ (1 ≤ m ∧ m ≤ 100) := by
    unfold faultErr at h
    repeat' split at h
    all_goals omega
  obtain ⟨ha, hb, hc, hd, hn, hm⟩ := hf
  refine Sat_of_awp (fn := f35) cx_ok (by kernel_rfl) (by kernel_rfl) rfl (by kernel_rfl) (Nat.le_of_ble_eq_true rfl) ?_
  repeat' (first | refine oP rfl ?_ | (refine rG (fun _ h => h) ?_; conv => whnf) | (refine oN ?_; conv => whnf) | refine aS ?_ | (refine aR ?_; conv => whnf) | (refine aK ?_; conv => whnf) | (refine aX ?_; conv => whnf) | refine aB ?_ | (refine aT ?_; conv => whnf) | refine aC rfl ?_ | refine bT ?_ | refine bF ?_ | refine aL ?_ | refine aE ?_ | refine oY rfl rfl rfl ?_ | (refine oZ rfl rfl rfl ?_; conv => whnf) | (refine oO rfl rfl rfl ?_; conv => whnf) | (refine dI (by kernel_rfl) ?_; conv => whnf) | (refine rG (fun _ h => ⟨by decide, h⟩) ?_; conv => whnf) | (refine rG (fun _ h => ⟨_, peak1_sat _ _ _ _ _ _ _ _ ha hd hn hm, h⟩) ?_; conv => whnf) | (refine rG (fun _ h => ⟨_, peak1_sat _ _ _ _ _ _ _ _ hb hc hn hm, h⟩) ?_; conv => whnf) | (refine br_intro (fun h => ?_) (fun h => ?_) <;> (try conv => whnf)) | (refine opsA_if rfl rfl rfl (fun h => ?_) (fun h => ?_) <;> (try conv => whnf)) | (refine opsA_unless rfl rfl rfl (fun h => ?_) (fun h => ?_) <;> (try conv => whnf)))
  rfl
theorem refPeak_sat (a b c d n m : Int) (h : faultErr a b c d n m = 0) : Sat cx.P cx.gl 75 [F6 a b c d n m] (.one (F4 (lowN (a * n) (d * m)) (lowD (a * n) (d * m)) (lowN (b * n) (c * m)) (lowD (b * n) (c * m)))) := by
  have hf : (0 ≤ a ∧ a ≤ 1000) ∧ (0 ≤ b ∧ b ≤ 1000) ∧ (1 ≤ c ∧ c ≤ 1000) ∧ (1 ≤ d ∧ d ≤ 1000) ∧ (1 ≤ n ∧ n ≤ 100) ∧ (1 ≤ m ∧ m ≤ 100) := by
    unfold faultErr at h
    repeat' split at h
    all_goals omega
  obtain ⟨ha, hb, hc, hd, hn, hm⟩ := hf
  have pr : ∀ v n : Int, 0 ≤ v ∧ v ≤ 1000 → 1 ≤ n ∧ n ≤ 100 → 0 ≤ v * n ∧ v * n ≤ 100000 := fun v n hv hn => ⟨Int.mul_nonneg hv.1 (by omega), by have := Int.mul_le_mul hv.2 hn.2 (by omega) (by omega); omega⟩
  have ps : ∀ v n : Int, 1 ≤ v ∧ v ≤ 1000 → 1 ≤ n ∧ n ≤ 100 → 1 ≤ v * n := fun v n hv hn => by have := Int.mul_le_mul hv.1 hn.1 (by omega) (by omega); omega
  have wr : ∀ x : Int, 0 ≤ x ∧ x ≤ 100000 → IntKind.i64.wrap x = x := fun x h => i64_in _ (by omega)
  have p1 := pr a n ha hn
  have p2 := pr b n hb hn
  have p3 := pr c m (by omega) hm
  have p4 := pr d m (by omega) hm
  have p5 := ps c m hc hm
  have p6 := ps d m hd hm
  refine Sat_of_awp (fn := f75) cx_ok (by kernel_rfl) (by kernel_rfl) rfl (by kernel_rfl) (Nat.le_of_ble_eq_true rfl) ?_
  repeat' (first | refine oP rfl ?_ | (refine rG (fun _ h => h) ?_; conv => whnf) | (refine oN ?_; conv => whnf) | refine aS ?_ | (refine aR ?_; conv => whnf) | (refine aK ?_; conv => whnf) | (refine aX ?_; conv => whnf) | refine aB ?_ | (refine aT ?_; conv => whnf) | refine aC rfl ?_ | refine bT ?_ | refine bF ?_ | refine aL ?_ | refine aE ?_ | refine oY rfl rfl rfl ?_ | (refine oZ rfl rfl rfl ?_; conv => whnf) | (refine oO rfl rfl rfl ?_; conv => whnf) | (refine dI (by kernel_rfl) ?_; conv => whnf) | (refine rG (fun _ h => ⟨by decide, h⟩) ?_; conv => whnf) | (refine rG (fun _ h => ⟨_, lowest56 (wr _ p1) (wr _ p4) ⟨by omega, by omega⟩ ⟨by omega, by omega⟩, h⟩) ?_; conv => whnf) | (refine rG (fun _ h => ⟨_, lowest56 (wr _ p2) (wr _ p3) ⟨by omega, by omega⟩ ⟨by omega, by omega⟩, h⟩) ?_; conv => whnf) | (refine br_intro (fun h => ?_) (fun h => ?_) <;> (try conv => whnf)) | (refine opsA_if rfl rfl rfl (fun h => ?_) (fun h => ?_) <;> (try conv => whnf)) | (refine opsA_unless rfl rfl rfl (fun h => ?_) (fun h => ?_) <;> (try conv => whnf)))
  rfl
end Go.Proofs.Tryz

namespace Go.Proofs.Tryz
open Go.Fw Go.IntWalk
set_option maxRecDepth 100000
set_option maxHeartbeats 4000000
theorem peakOf_sat (a b c d n m : Int) (hn : inI n) (hm : inI m) : Sat cx.P cx.gl 23 [F6 a b c d n m] (.tup (if faultErr a b c d n m = 0
    then [F4 (lowN (a * n) (d * m)) (lowD (a * n) (d * m)) (lowN (b * n) (c * m)) (lowD (b * n) (c * m)), I 0] else [F4 0 0 0 0, I (faultErr a b c d n m)])) := by
  refine Sat_of_awp (fn := f23) cx_ok (by kernel_rfl) (by kernel_rfl) rfl (by kernel_rfl) (Nat.le_of_ble_eq_true rfl) ?_
  repeat' (first | refine oP rfl ?_ | (refine rG (fun _ h => h) ?_; conv => whnf) | (refine oN ?_; conv => whnf) | refine aS ?_ | (refine aR ?_; conv => whnf) | (refine aK ?_; conv => whnf) | (refine aX ?_; conv => whnf) | refine aB ?_ | (refine aT ?_; conv => whnf) | refine aC rfl ?_ | refine bT ?_ | refine bF ?_ | refine aL ?_ | refine aE ?_ | refine oY rfl rfl rfl ?_ | (refine oZ rfl rfl rfl ?_; conv => whnf) | (refine oO rfl rfl rfl ?_; conv => whnf) | (refine dI (by kernel_rfl) ?_; conv => whnf) | (refine rG (fun _ h => ⟨by decide, h⟩) ?_; conv => whnf) | (refine rG (fun _ h => ⟨_, checkFault_sat a b c d n m hn hm, h⟩) ?_; conv => whnf) | (refine rG (fun _ h => ⟨_, peak_sat a b c d n m (by simp at *; assumption), h⟩) ?_; conv => whnf) | (refine br_intro (fun h => ?_) (fun h => ?_) <;> (try conv => whnf)) | (refine opsA_if rfl rfl rfl (fun h => ?_) (fun h => ?_) <;> (try conv => whnf)) | (refine opsA_unless rfl rfl rfl (fun h => ?_) (fun h => ?_) <;> (try conv => whnf)))
  · have h : (faultErr a b c d n m != 0) = true := h
    rw [if_neg (by simpa using h)]; rfl
  · have h : (faultErr a b c d n m != 0) = false := h
    rw [if_pos (by simpa using h)]; rfl
theorem less_sat (a b c d : Int) : Sat cx.P cx.gl 92 [(true, [.lit (.int .u64 a), .lit (.int .u64 b)]), (true, [.lit (.int .u64 c), .lit (.int .u64 d)])] (.one (Bo (decide (a < c ∨ (a = c ∧ b < d))))) := by
  refine Sat_of_awp (fn := f92) cx_ok (by kernel_rfl) (by kernel_rfl) rfl (by kernel_rfl) (Nat.le_of_ble_eq_true rfl) ?_
  repeat' (first | refine oP rfl ?_ | (refine rG (fun _ h => h) ?_; conv => whnf) | (refine oN ?_; conv => whnf) | refine aS ?_ | (refine aR ?_; conv => whnf) | (refine aK ?_; conv => whnf) | (refine aX ?_; conv => whnf) | refine aB ?_ | (refine aT ?_; conv => whnf) | refine aC rfl ?_ | refine bT ?_ | refine bF ?_ | refine aL ?_ | refine aE ?_ | refine oY rfl rfl rfl ?_ | (refine oZ rfl rfl rfl ?_; conv => whnf) | (refine oO rfl rfl rfl ?_; conv => whnf) | (refine dI (by kernel_rfl) ?_; conv => whnf) | (refine rG (fun _ h => ⟨by decide, h⟩) ?_; conv => whnf) | (refine br_intro (fun h => ?_) (fun h => ?_) <;> (try conv => whnf)) | (refine opsA_if rfl rfl rfl (fun h => ?_) (fun h => ?_) <;> (try conv => whnf)) | (refine opsA_unless rfl rfl rfl (fun h => ?_) (fun h => ?_) <;> (try conv => whnf)))
  all_goals refine res_bo ?_
  all_goals simp at *
  all_goals simp [*]
  all_goals omega
theorem mul64_sat (a b : Int) (ha : 0 ≤ a ∧ a < 2 ^ 64) (hb : 0 ≤ b ∧ b < 2 ^ 64) : Sat cx.P cx.gl 105 [(false, [.lit (.int .u64 a)]), (false, [.lit (.int .u64 b)])] (.tup [(false, [.lit (.int .u64 (a * b / 2 ^ 64))]), (false, [.lit (.int .u64 (a * b % 2 ^ 64))])]) := by
  refine Sat_of_awp (fn := f105) cx_ok (by kernel_rfl) (by kernel_rfl) rfl (by kernel_rfl) (Nat.le_of_ble_eq_true rfl) ?_
  repeat (first | refine oP rfl ?_ | (refine rG (fun _ h => h) ?_; conv => whnf) | (refine oN ?_; conv => whnf) | refine aS ?_ | (refine aR ?_; conv => whnf) | (refine aK ?_; conv => whnf) | (refine aX ?_; conv => whnf) | refine aB ?_ | (refine aT ?_; conv => whnf) | refine aC rfl ?_ | refine bT ?_ | refine bF ?_ | refine aL ?_ | refine aE ?_ | refine oY rfl rfl rfl ?_ | (refine oZ rfl rfl rfl ?_; conv => whnf) | (refine oO rfl rfl rfl ?_; conv => whnf) | (refine dI (by kernel_rfl) ?_; conv => whnf) | (refine rG (fun _ h => ⟨by decide, h⟩) ?_; conv => whnf))
  simp only [u64_half]
  rw [u64_mask a ha, u64_mask b hb]
  have pa : 0 ≤ a / 4294967296 ∧ a / 4294967296 < 4294967296 := by omega
  have qa : 0 ≤ a % 4294967296 ∧ a % 4294967296 < 4294967296 := by omega
  have pb : 0 ≤ b / 4294967296 ∧ b / 4294967296 < 4294967296 := by omega
  have qb : 0 ≤ b % 4294967296 ∧ b % 4294967296 < 4294967296 := by omega
  have h11 := half_prod pa pb
  have h10 := half_prod pa qb
  have h01 := half_prod qa pb
  have h00 := half_prod qa qb
  have hab := mul_halves a b
  rw [hab]
  generalize (a / 4294967296) * (b / 4294967296) = p11 at *
  generalize (a / 4294967296) * (b % 4294967296) = p10 at *
  generalize (a % 4294967296) * (b / 4294967296) = p01 at *
  generalize (a % 4294967296) * (b % 4294967296) = p00 at *
  rw [u64_in p00 (by omega), u64_in p10 (by omega), u64_in p11 (by omega), u64_in p01 (by omega)]
  rw [u64_in (p10 + p00 / 4294967296) (by omega)]
  rw [u64_mask _ (by omega)]
  rw [u64_in (p11 + (p10 + p00 / 4294967296) / 4294967296) (by omega), u64_in ((p10 + p00 / 4294967296) % 4294967296 + p01) (by omega), u64_wrap, u64_wrap]
  have e1 : (p11 + (p10 + p00 / 4294967296) / 4294967296 + ((p10 + p00 / 4294967296) % 4294967296 + p01) / 4294967296) % 18446744073709551616 = (p11 * 18446744073709551616 + (p10 + p01) * 4294967296 + p00) / 2 ^ 64 := by
    have : (2 : Int) ^ 64 = 18446744073709551616 := by decide
    rw [this]
    have hlt : p11 * 18446744073709551616 + (p10 + p01) * 4294967296 + p00 < 340282366920938463463374607431768211456 := by
      have h1 : a < 18446744073709551616 := by omega
      have h2 : b < 18446744073709551616 := by omega
      have := Int.mul_le_mul (show a ≤ 18446744073709551615 by omega) (show b ≤ 18446744073709551615 by omega) hb.1 (by omega)
      omega
    omega
  have e2 : (2 : Int) ^ 64 = 18446744073709551616 := by decide
  rw [e1, e2]
end Go.Proofs.Tryz

namespace Go.Proofs.Tryz
open Go.Fw Go.IntWalk
set_option maxRecDepth 100000
set_option maxHeartbeats 4000000
theorem times_sat (a b : Int) (ha : 0 ≤ a ∧ a < 2 ^ 63) (hb : 0 ≤ b ∧ b < 2 ^ 63) : Sat cx.P cx.gl 91 [I a, I b] (.one (true, [.lit (.int .u64 (a * b / 2 ^ 64)), .lit (.int .u64 (a * b % 2 ^ 64))])) := by
  have e1 : IntKind.u64.wrap a = a := u64_in _ (by omega)
  have e2 : IntKind.u64.wrap b = b := u64_in _ (by omega)
  have m : Sat cx.P cx.gl 105 [(false, [.lit (.int .u64 (IntKind.u64.wrap a))]), (false, [.lit (.int .u64 (IntKind.u64.wrap b))])] (.tup [(false, [.lit (.int .u64 (a * b / 2 ^ 64))]), (false, [.lit (.int .u64 (a * b % 2 ^ 64))])]) := by
    rw [e1, e2]; exact mul64_sat a b (by omega) (by omega)
  refine Sat_of_awp (fn := f91) cx_ok (by kernel_rfl) (by kernel_rfl) rfl (by kernel_rfl) (Nat.le_of_ble_eq_true rfl) ?_
  repeat' (first | refine oP rfl ?_ | (refine rG (fun _ h => h) ?_; conv => whnf) | (refine oN ?_; conv => whnf) | refine aS ?_ | (refine aR ?_; conv => whnf) | (refine aK ?_; conv => whnf) | (refine aX ?_; conv => whnf) | refine aB ?_ | (refine aT ?_; conv => whnf) | refine aC rfl ?_ | refine bT ?_ | refine bF ?_ | refine aL ?_ | refine aE ?_ | refine oY rfl rfl rfl ?_ | (refine oZ rfl rfl rfl ?_; conv => whnf) | (refine oO rfl rfl rfl ?_; conv => whnf) | (refine dI (by kernel_rfl) ?_; conv => whnf) | (refine rG (fun _ h => ⟨by decide, h⟩) ?_; conv => whnf) | (refine rG (fun _ h => ⟨_, m, h⟩) ?_; conv => whnf) | (refine br_intro (fun h => ?_) (fun h => ?_) <;> (try conv => whnf)) | (refine opsA_if rfl rfl rfl (fun h => ?_) (fun h => ?_) <;> (try conv => whnf)) | (refine opsA_unless rfl rfl rfl (fun h => ?_) (fun h => ?_) <;> (try conv => whnf)))
  rfl
theorem exceeds_sat (u p q n : Int) (hu : 0 ≤ u ∧ u < 2 ^ 63) (hp : 0 ≤ p ∧ p ≤ 100000) (hq : 0 ≤ q ∧ q ≤ 100000) (hn : 0 ≤ n ∧ n < 2 ^ 63) : Sat cx.P cx.gl 66 [I u, F2 p q, I n] (.one (Bo (decide (n * (q * q) < u * (p * p))))) := by
  have sq : ∀ x : Int, 0 ≤ x ∧ x ≤ 100000 → 0 ≤ x * x ∧ x * x ≤ 10000000000 := fun x h => ⟨Int.mul_nonneg h.1 h.1, by have := Int.mul_le_mul h.2 h.2 h.1 (by omega); omega⟩
  have sp := sq p hp
  have sq := sq q hq
  have e1 : IntKind.i64.wrap (p * p) = p * p := i64_in _ (by omega)
  have e2 : IntKind.i64.wrap (q * q) = q * q := i64_in _ (by omega)
  have t1 : Sat cx.P cx.gl 91 [I n, I (IntKind.i64.wrap (q * q))] (.one (true, [.lit (.int .u64 (n * (q * q) / 2 ^ 64)), .lit (.int .u64 (n * (q * q) % 2 ^ 64))])) := by
    rw [e2]; exact times_sat _ _ hn (by omega)
  have t2 : Sat cx.P cx.gl 91 [I u, I (IntKind.i64.wrap (p * p))] (.one (true, [.lit (.int .u64 (u * (p * p) / 2 ^ 64)), .lit (.int .u64 (u * (p * p) % 2 ^ 64))])) := by
    rw [e1]; exact times_sat _ _ hu (by omega)
  refine Sat_of_awp (fn := f66) cx_ok (by kernel_rfl) (by kernel_rfl) rfl (by kernel_rfl) (Nat.le_of_ble_eq_true rfl) ?_
  repeat' (first | refine oP rfl ?_ | (refine rG (fun _ h => h) ?_; conv => whnf) | (refine oN ?_; conv => whnf) | refine aS ?_ | (refine aR ?_; conv => whnf) | (refine aK ?_; conv => whnf) | (refine aX ?_; conv => whnf) | refine aB ?_ | (refine aT ?_; conv => whnf) | refine aC rfl ?_ | refine bT ?_ | refine bF ?_ | refine aL ?_ | refine aE ?_ | refine oY rfl rfl rfl ?_ | (refine oZ rfl rfl rfl ?_; conv => whnf) | (refine oO rfl rfl rfl ?_; conv => whnf) | (refine dI (by kernel_rfl) ?_; conv => whnf) | (refine rG (fun _ h => ⟨by decide, h⟩) ?_; conv => whnf) | (refine rG (fun _ h => ⟨_, t1, h⟩) ?_; conv => whnf) | (refine rG (fun _ h => ⟨_, t2, h⟩) ?_; conv => whnf) | (refine rG (fun _ h => ⟨_, less_sat _ _ _ _, h⟩) ?_; conv => whnf) | (refine br_intro (fun h => ?_) (fun h => ?_) <;> (try conv => whnf)) | (refine opsA_if rfl rfl rfl (fun h => ?_) (fun h => ?_) <;> (try conv => whnf)) | (refine opsA_unless rfl rfl rfl (fun h => ?_) (fun h => ?_) <;> (try conv => whnf)))
  · have h : decide (n < 0) = true := by assumption
    simp at h; omega
  · refine res_bo ?_
    generalize n * (q * q) = x
    generalize u * (p * p) = y
    rw [Bool.eq_iff_iff]
    simp only [decide_eq_true_eq]
    omega
/-- The answer whether a unit holds a limit. -/
def holdsV (p q r s u n : Int) : Int := if ¬ n * (s * s) < u * (r * r) then 2 else if n * (q * q) < u * (p * p) then 0 else 1
theorem holds_sat (p q r s u n : Int) (hu : 0 ≤ u ∧ u < 2 ^ 63) (hp : 0 ≤ p ∧ p ≤ 100000) (hq : 0 ≤ q ∧ q ≤ 100000) (hr : 0 ≤ r ∧ r ≤ 100000) (hs : 0 ≤ s ∧ s ≤ 100000) (hn : 0 ≤ n ∧ n < 2 ^ 63) :
    Sat cx.P cx.gl 34 [F4 p q r s, I u, I n] (.one (I (holdsV p q r s u n))) := by
  refine Sat_of_awp (fn := f34) cx_ok (by kernel_rfl) (by kernel_rfl) rfl (by kernel_rfl) (Nat.le_of_ble_eq_true rfl) ?_
  repeat' (first | refine oP rfl ?_ | (refine rG (fun _ h => h) ?_; conv => whnf) | (refine oN ?_; conv => whnf) | refine aS ?_ | (refine aR ?_; conv => whnf) | (refine aK ?_; conv => whnf) | (refine aX ?_; conv => whnf) | refine aB ?_ | (refine aT ?_; conv => whnf) | refine aC rfl ?_ | refine bT ?_ | refine bF ?_ | refine aL ?_ | refine aE ?_ | refine oY rfl rfl rfl ?_ | (refine oZ rfl rfl rfl ?_; conv => whnf) | (refine oO rfl rfl rfl ?_; conv => whnf) | (refine dI (by kernel_rfl) ?_; conv => whnf) | (refine rG (fun _ h => ⟨by decide, h⟩) ?_; conv => whnf) | (refine rG (fun _ h => ⟨_, exceeds_sat _ _ _ _ hu hp hq hn, h⟩) ?_; conv => whnf) | (refine rG (fun _ h => ⟨_, exceeds_sat _ _ _ _ hu hr hs hn, h⟩) ?_; conv => whnf) | (refine br_intro (fun h => ?_) (fun h => ?_) <;> (try conv => whnf)) | (refine opsA_if rfl rfl rfl (fun h => ?_) (fun h => ?_) <;> (try conv => whnf)) | (refine opsA_unless rfl rfl rfl (fun h => ?_) (fun h => ?_) <;> (try conv => whnf)))
  all_goals refine res_i ?_
  all_goals simp only [Bool.not_eq_true', Bool.not_eq_false', decide_eq_true_eq, decide_eq_false_iff_not] at *
  all_goals unfold holdsV
  all_goals simp [*]
end Go.Proofs.Tryz

namespace Go.Proofs.Tryz
open Go.Fw Go.IntWalk
set_option maxRecDepth 100000
set_option maxHeartbeats 4000000
theorem faultErr_zero {a b c d n m : Int} (h : faultErr a b c d n m = 0) : (0 ≤ a ∧ a ≤ 1000) ∧ (0 ≤ b ∧ b ≤ 1000) ∧ (1 ≤ c ∧ c ≤ 1000) ∧ (1 ≤ d ∧ d ≤ 1000) ∧ (1 ≤ n ∧ n ≤ 100) ∧ (1 ≤ m ∧ m ≤ 100) ∧ a ≤ b ∧ c ≤ d := by
  unfold faultErr at h
  repeat' split at h
  all_goals omega
theorem low_bounds {n d : Int} (hn : 0 ≤ n ∧ n ≤ 100000) (hd : 1 ≤ d ∧ d ≤ 100000) : (0 ≤ lowN n d ∧ lowN n d ≤ 100000) ∧ (0 ≤ lowD n d ∧ lowD n d ≤ 100000) := by
  unfold lowN lowD
  have h1 := Int.natAbs_ediv_le_natAbs n (Int.gcd n d)
  have h2 := Int.natAbs_ediv_le_natAbs d (Int.gcd n d)
  have h3 : 0 ≤ n / (Int.gcd n d : Int) := Int.ediv_nonneg hn.1 (by omega)
  have h4 : 0 ≤ d / (Int.gcd n d : Int) := Int.ediv_nonneg (by omega) (by omega)
  omega
/-- The error of a question whether a unit holds a limit. -/
def askErr (a b c d n m u l : Int) : Int := if faultErr a b c d n m ≠ 0 then faultErr a b c d n m else if 0 ≤ u ∧ u ≤ 10000000 then (if 1 ≤ l ∧ l ≤ 100000000 then 0 else 2) else 2
abbrev holdsF (a b c d n m u l : Int) : Int := holdsV (lowN (a * n) (d * m)) (lowD (a * n) (d * m)) (lowN (b * n) (c * m)) (lowD (b * n) (c * m)) u l
theorem ask_find (a b c d n m u l : Int) : (([faultErr a b c d n m, if 0 ≤ u ∧ u ≤ 10000000 then 0 else 2, if (decide (1 ≤ l) && decide (l ≤ 100000000)) = true then 0 else 2].find? (fun x => decide (x ≠ 0))).getD 0) = askErr a b c d n m u l := by
  unfold askErr
  generalize faultErr a b c d n m = e
  by_cases h1 : e = 0 <;> by_cases h2 : 0 ≤ u ∧ u ≤ 10000000 <;> by_cases h3 : 1 ≤ l ∧ l ≤ 100000000 <;> simp [h1, h2, h3]
theorem peak_bounds {a b c d n m : Int} (h : faultErr a b c d n m = 0) : (0 ≤ a * n ∧ a * n ≤ 100000) ∧ (1 ≤ d * m ∧ d * m ≤ 100000) ∧ (0 ≤ b * n ∧ b * n ≤ 100000) ∧ (1 ≤ c * m ∧ c * m ≤ 100000) := by
  obtain ⟨ha, hb, hc, hd, hn, hm, _, _⟩ := faultErr_zero h
  have pr : ∀ v n : Int, 0 ≤ v ∧ v ≤ 1000 → 1 ≤ n ∧ n ≤ 100 → 0 ≤ v * n ∧ v * n ≤ 100000 := fun v n hv hn => ⟨Int.mul_nonneg hv.1 (by omega), by have := Int.mul_le_mul hv.2 hn.2 (by omega) (by omega); omega⟩
  have ps : ∀ v n : Int, 1 ≤ v ∧ v ≤ 1000 → 1 ≤ n ∧ n ≤ 100 → 1 ≤ v * n := fun v n hv hn => by have := Int.mul_le_mul hv.1 hn.1 (by omega) (by omega); omega
  exact ⟨pr a n ha hn, ⟨ps d m hd hm, (pr d m (by omega) hm).2⟩, pr b n hb hn, ⟨ps c m hc hm, (pr c m (by omega) hm).2⟩⟩
theorem ask_zero {a b c d n m u l : Int} (h : askErr a b c d n m u l = 0) : faultErr a b c d n m = 0 ∧ (0 ≤ u ∧ u ≤ 10000000) ∧ (1 ≤ l ∧ l ≤ 100000000) := by
  unfold askErr at h
  by_cases h1 : faultErr a b c d n m = 0
  · refine ⟨h1, ?_⟩
    simp only [h1, ne_eq, not_true_eq_false, if_false] at h
    repeat' split at h
    all_goals omega
  · simp only [h1, ne_eq, not_false_eq_true, if_true] at h
theorem holdsAt_sat (a b c d n m u l : Int) (hn : inI n) (hm : inI m) : Sat cx.P cx.gl 25 [F6 a b c d n m, I u, I l] (.tup (if askErr a b c d n m u l = 0 then [I (holdsF a b c d n m u l), I 0] else [I 0, I (askErr a b c d n m u l)])) := by
  have hfind := ask_find a b c d n m u l
  refine Sat_of_awp (fn := f25) cx_ok (by kernel_rfl) (by kernel_rfl) rfl (by kernel_rfl) (Nat.le_of_ble_eq_true rfl) ?_
  repeat' (first | refine oP rfl ?_ | (refine rG (fun _ h => h) ?_; conv => whnf) | (refine oN ?_; conv => whnf) | refine aS ?_ | (refine aR ?_; conv => whnf) | (refine aK ?_; conv => whnf) | (refine aX ?_; conv => whnf) | refine aB ?_ | (refine aT ?_; conv => whnf) | refine aC rfl ?_ | refine bT ?_ | refine bF ?_ | refine aL ?_ | refine aE ?_ | refine oY rfl rfl rfl ?_ | (refine oZ rfl rfl rfl ?_; conv => whnf) | (refine oO rfl rfl rfl ?_; conv => whnf) | (refine dI (by kernel_rfl) ?_; conv => whnf) | (refine rG (fun _ h => ⟨by decide, h⟩) ?_; conv => whnf) | (refine rG (fun _ h => ⟨_, checkFault_sat a b c d n m hn hm, h⟩) ?_; conv => whnf) | (refine rG (fun _ h => ⟨_, unitErr_sat _, h⟩) ?_; conv => whnf) | (refine rG (fun _ h => ⟨_, within52_sat _ _ _, h⟩) ?_; conv => whnf) | (refine rG (fun _ h => ⟨_, unless_sat _ _, h⟩) ?_; conv => whnf) | (refine rG (fun _ h => ⟨_, first_sat _ (Nat.le_of_ble_eq_true rfl), h⟩) ?_; conv => whnf) | (refine br_intro (fun h => ?_) (fun h => ?_) <;> (try conv => whnf)) | (refine opsA_if rfl rfl rfl (fun h => ?_) (fun h => ?_) <;> (try conv => whnf)) | (refine opsA_unless rfl rfl rfl (fun h => ?_) (fun h => ?_) <;> (try conv => whnf)))
  · have h : (askErr a b c d n m u l != 0) = true := by rw [← hfind]; assumption
    have h : askErr a b c d n m u l ≠ 0 := by simpa using h
    rw [if_neg h, hfind]; rfl
  · have h : (askErr a b c d n m u l != 0) = false := by rw [← hfind]; assumption
    have h : askErr a b c d n m u l = 0 := by simpa using h
    obtain ⟨h1, h2, h3⟩ := ask_zero h
    obtain ⟨b1, b2, b3, b4⟩ := peak_bounds h1
    have q1 := low_bounds b1 b2
    have q2 := low_bounds b3 b4
    rw [if_pos h]
    repeat' (first | refine oP rfl ?_ | (refine rG (fun _ h => h) ?_; conv => whnf) | (refine oN ?_; conv => whnf) | refine aS ?_ | (refine aR ?_; conv => whnf) | (refine aK ?_; conv => whnf) | (refine aX ?_; conv => whnf) | refine aB ?_ | (refine aT ?_; conv => whnf) | refine aC rfl ?_ | refine bT ?_ | refine bF ?_ | refine aL ?_ | refine aE ?_ | refine oY rfl rfl rfl ?_ | (refine oZ rfl rfl rfl ?_; conv => whnf) | (refine oO rfl rfl rfl ?_; conv => whnf) | (refine dI (by kernel_rfl) ?_; conv => whnf) | (refine rG (fun _ h => ⟨by decide, h⟩) ?_; conv => whnf) | (refine rG (fun _ h => ⟨_, peak_sat a b c d n m h1, h⟩) ?_; conv => whnf) | (refine rG (fun _ h => ⟨_, holds_sat _ _ _ _ _ _ (by omega) q1.1 q1.2 q2.1 q2.2 (by omega), h⟩) ?_; conv => whnf) | (refine br_intro (fun h => ?_) (fun h => ?_) <;> (try conv => whnf)) | (refine opsA_if rfl rfl rfl (fun h => ?_) (fun h => ?_) <;> (try conv => whnf)) | (refine opsA_unless rfl rfl rfl (fun h => ?_) (fun h => ?_) <;> (try conv => whnf)))
    rfl
end Go.Proofs.Tryz

namespace Go.Proofs.Tryz
open Go.Fw Go.IntWalk Go.Plain
set_option maxRecDepth 100000
set_option maxHeartbeats 4000000
abbrev L (l : List Int) : SV := (false, [.ints l])
abbrev W2 (a b : List Int) : SV := (true, [.ints a, .ints b])
theorem res_iff {p q : Prop} [Decidable p] [Decidable q] (h : p ↔ q) : Res.one (Bo (decide p)) = .one (Bo (decide q)) := by rw [decide_eq_decide.2 h]
theorem natInt (i : Nat) : ((i : Int) + 1) = ((i + 1 : Nat) : Int) := by simp
theorem sum_sat (l : List Int) (hl : l.length ≤ 1000000) (hb : ∀ n ∈ l, -100 ≤ n ∧ n ≤ 100) : Sat cx.P cx.gl 70 [L l] (.one (I l.sum)) := by
  refine Sat_of_awp (fn := f70) cx_ok (by kernel_rfl) (by kernel_rfl) rfl (by kernel_rfl) (Nat.le_of_ble_eq_true rfl) ?_
  repeat ((first | refine oP rfl ?_ | refine rP rfl (fun _ z => z) ?_ | (refine kO 6 rfl ?_; refine rLen rfl rfl rfl rfl rfl rfl ?_) | refine oN ?_ | refine aS ?_ | refine aR ?_ | refine aB ?_ | refine aL ?_); (try conv => whnf))
  refine loop_ind (ι := Nat) (fun i => i ≤ l.length) (fun i => l.length - i) (fun i => ⟨[(6, vL l), (7, vI l.length), (8, vI i), (3, vI (l.take i).sum)], [], 0⟩) 0 (canon_auto (by kernel_rfl)) (Nat.zero_le _) ?_
  intro i hi
  have b1 := sum_take_bound (B := 100) (by omega) hb i
  repeat ((first | refine oP rfl ?_ | (refine kO 1 rfl ?_; refine rG (fun _ z => z) ?_) | refine oN ?_ | refine aS ?_ | refine aR ?_ | refine aC rfl ?_); (try conv => whnf))
  ((refine brp (fun h => ?_) (fun h => ?_)) <;> (try conv => whnf))
  · have hlt : i < l.length := by omega
    have b2 := sum_take_succ hlt
    have b3 := sum_take_bound (B := 100) (by omega) hb (i + 1)
    repeat ((first | refine oP rfl ?_ | refine rP rfl (fun _ z => z) ?_ | (refine kO 1 rfl ?_; refine rAdd rfl rfl rfl (by omega) ?_) | (refine kO 3 rfl ?_; refine rLdr rfl rfl rfl rfl rfl ?_) | (refine kO 5 rfl ?_; refine rIdN rfl rfl rfl rfl rfl rfl rfl (by omega) ?_) | refine oN ?_ | refine aS ?_ | refine aR ?_ | refine aK ?_ | refine aB ?_); (try conv => whnf))
    rw [← b2]
    exact ⟨i + 1, hlt, by omega, canon_auto (by kernel_rfl)⟩
  · repeat ((first | refine oP rfl ?_ | refine rP rfl (fun _ z => z) ?_ | refine oN ?_ | refine aS ?_ | refine aR ?_ | refine aX ?_ | refine aT ?_); (try conv => whnf))
    rw [show i = l.length by omega]
    exact res_i (by simp)
theorem failsF_sat (n lo hi : Int) : Sat cx.P cx.gl 72 [I n, (false, [.ref [J lo]]), (false, [.ref [J hi]])] (.one (Bo (!(decide (lo ≤ n) && decide (n ≤ hi))))) := by
  refine Sat_of_awp (fn := f72) cx_ok (by kernel_rfl) (by kernel_rfl) rfl (by kernel_rfl) (Nat.le_of_ble_eq_true rfl) ?_
  repeat' ((first | refine oP rfl ?_ | refine rP rfl (fun _ z => z) ?_ | (refine kO 2 rfl ?_; refine rG (fun _ z => z) ?_) | (refine kO 3 rfl ?_; refine rLdr rfl rfl rfl rfl rfl ?_) | (refine kO 7 rfl ?_; refine rG (fun _ z => ⟨_, within52_sat _ _ _, z⟩) ?_) | refine oN ?_ | refine aS ?_ | refine aR ?_ | refine aT ?_) <;> (try conv => whnf))
/-- A predicate on ints that a function value computes. -/
def Pred (f : SC) (p : Int → Bool) : Prop := ∃ g first caps, f = .fn g first caps ∧ ∀ n, Sat cx.P cx.gl g (first ++ [I n] ++ caps.map fun cs => (false, [.ref cs])) (.one (Bo (p n)))
theorem indexFunc_sat (l : List Int) (g : FuncId) (first : List (Bool × List SC)) (caps : List (List SC)) (p : Int → Bool) (hp : ∀ n, Sat cx.P cx.gl g (first ++ [I n] ++ caps.map fun cs => (false, [.ref cs])) (.one (Bo (p n)))) (hl : l.length ≤ maxLen) :
    Sat cx.P cx.gl 94 [L l, (false, [.fn g first caps])] (.one (I (if l.any p then (l.findIdx p : Int) else -1))) := by
  unfold maxLen at hl
  refine Sat_of_awp (fn := f94) cx_ok (by kernel_rfl) (by kernel_rfl) rfl (by kernel_rfl) (Nat.le_of_ble_eq_true rfl) ?_
  repeat ((first | refine oP rfl ?_ | refine rP rfl (fun _ z => z) ?_ | (refine kO 6 rfl ?_; refine rLen rfl rfl rfl rfl rfl rfl ?_) | refine oN ?_ | refine aS ?_ | refine aR ?_ | refine aB ?_ | refine aL ?_); (try conv => whnf))
  refine loop_ind (ι := Nat) (fun i => i ≤ l.length ∧ ∀ j < i, p (l.getD j 0) = false) (fun i => l.length - i) (fun i => ⟨[(0, vL l), (1, some (.val (false, [.st (.fn g first caps)]))), (7, vI l.length), (8, vI i)], [], 0⟩) 0 (canon_auto (by kernel_rfl)) ⟨Nat.zero_le _, by intro j hj; omega⟩ ?_
  rintro i ⟨hi, hf⟩
  repeat ((first | refine oP rfl ?_ | (refine kO 1 rfl ?_; refine rG (fun _ z => z) ?_) | refine oN ?_ | refine aS ?_ | refine aR ?_ | refine aC rfl ?_); (try conv => whnf))
  ((refine brp (fun h => ?_) (fun h => ?_)) <;> (try conv => whnf)) <;> (repeat ((first | refine oP rfl ?_ | refine rP rfl (fun _ z => z) ?_ | (refine kO 3 rfl ?_; refine rLdr rfl rfl rfl rfl rfl ?_) | (refine kO 5 rfl ?_; refine rIdN rfl rfl rfl rfl rfl rfl rfl (by omega) ?_) | refine oN ?_ | refine aS ?_ | refine aR ?_ | refine aK ?_ | refine aX ?_ | refine aB ?_ | refine aT ?_); (try conv => whnf)))
  · have hlt : i < l.length := by omega
    repeat ((first | (refine kO 7 rfl ?_; refine rG (fun _ z => ⟨_, hp _, z⟩) ?_) | refine oN ?_ | refine aC rfl ?_); (try conv => whnf))
    have hget : l.getD i 0 = l[i] := by simp [List.getD_eq_getElem?_getD, hlt]
    ((refine brp (fun h => ?_) (fun h => ?_)) <;> (try conv => whnf)) <;> (repeat ((first | refine oP rfl ?_ | refine rP rfl (fun _ z => z) ?_ | (refine kO 1 rfl ?_; refine rAdd rfl rfl rfl (by omega) ?_) | refine oN ?_ | refine aS ?_ | refine aR ?_ | refine aK ?_ | refine aT ?_); (try conv => whnf)))
    · have hany : l.any p = true := List.any_eq_true.2 ⟨l.getD i 0, getD_mem hlt, h⟩
      refine res_i ?_
      rw [if_pos hany]
      have : l.findIdx p = i := by
        rw [List.findIdx_eq hlt]
        refine ⟨by rw [← hget]; exact h, fun j hj => ?_⟩
        have := hf j hj
        simpa [List.getD_eq_getElem?_getD, show j < l.length by omega] using this
      rw [this]
    · refine ⟨i + 1, ⟨hlt, fun j hj => ?_⟩, by omega, canon_auto (by kernel_rfl)⟩
      by_cases e : j = i
      · subst e; simpa using h
      · exact hf j (by omega)
  · refine res_i ?_
    rw [if_neg]
    intro hany
    obtain ⟨x, hx, hpx⟩ := List.any_eq_true.1 hany
    obtain ⟨j, hj, rfl⟩ := List.mem_iff_getElem.1 hx
    have := hf j (by omega)
    simp [List.getD_eq_getElem?_getD, hj, hpx] at this
theorem containsFunc_sat (l : List Int) (g : FuncId) (first : List (Bool × List SC)) (caps : List (List SC)) (p : Int → Bool) (hp : ∀ n, Sat cx.P cx.gl g (first ++ [I n] ++ caps.map fun cs => (false, [.ref cs])) (.one (Bo (p n)))) (hl : l.length ≤ maxLen) :
    Sat cx.P cx.gl 71 [L l, (false, [.fn g first caps])] (.one (Bo (l.any p))) := by
  refine Sat_of_awp (fn := f71) cx_ok (by kernel_rfl) (by kernel_rfl) rfl (by kernel_rfl) (Nat.le_of_ble_eq_true rfl) ?_
  repeat' ((first | refine oP rfl ?_ | refine rP rfl (fun _ z => z) ?_ | (refine kO 1 rfl ?_; refine rG (fun _ z => z) ?_) | (refine kO 7 rfl ?_; refine rG (fun _ z => ⟨_, indexFunc_sat l g first caps p hp hl, z⟩) ?_) | refine oN ?_ | refine aS ?_ | refine aR ?_ | refine aT ?_) <;> (try conv => whnf))
  refine res_bo ?_
  cases l.any p
  · simp
  · simp
theorem any_out {l : List Int} {lo hi : Int} : (l.any fun n => !(decide (lo ≤ n) && decide (n ≤ hi))) = decide (¬ AllIn l lo hi) := by
  rw [Bool.eq_iff_iff, decide_eq_true_iff]
  rw [List.any_eq_true]
  unfold AllIn
  constructor
  · rintro ⟨x, hx, h⟩ hh
    have := hh x hx
    simp at h; omega
  · intro h
    apply Classical.byContradiction
    intro hn
    refine h fun n hm => ?_
    apply Classical.byContradiction
    intro hc
    exact hn ⟨n, hm, by simp; omega⟩
theorem unless_p {b : Bool} {p : Prop} [BP b p] [Decidable p] (e : Int) : Sat cx.P cx.gl 41 [Bo b, I e] (.one (I (if p then 0 else e))) := by
  have h := unless_sat b e
  rwa [show (if b = true then (0 : Int) else e) = if p then 0 else e from by simp only [BP.iff (b := b)]] at h
theorem first_fs (l : List Int) (hl : l.length ≤ 1000000) : Sat cx.P cx.gl 40 [(false, [.ints l])] (.one (I (fs l))) := by
  rw [← fs_find]; exact first_sat l hl
theorem fails_sat (l : List Int) (lo hi : Int) (hl : l.length ≤ maxLen) : Sat cx.P cx.gl 43 [L l, I lo, I hi] (.one (I (if AllIn l lo hi then 0 else 2))) := by
  refine Sat_of_awp (fn := f43) cx_ok (by kernel_rfl) (by kernel_rfl) rfl (by kernel_rfl) (Nat.le_of_ble_eq_true rfl) ?_
  repeat' ((first | refine oP rfl ?_ | refine rP rfl (fun _ z => z) ?_ | (refine kO 2 rfl ?_; refine rG (fun _ z => z) ?_) | (refine kO 7 rfl ?_; first | refine rG (fun _ z => ⟨_, containsFunc_sat l _ _ _ _ (fun n => failsF_sat n lo hi) hl, z⟩) ?_ | refine rG (fun _ z => ⟨_, unless_p _, z⟩) ?_) | refine oN ?_ | refine aS ?_ | refine aR ?_ | refine aT ?_) <;> (try conv => whnf))
  refine res_i ?_
  rw [any_out]
  simp
abbrev pP (id : Nat) : Option DV := some (one (.ptr id 0))
abbrev pO (id : Nat) : Option DV := some (one (.own id))
theorem fs_nz {n : Int} (h : n ≠ 0) (l : List Int) : fs (n :: l) = n := by simp [fs, h]
end Go.Proofs.Tryz

namespace Go.Proofs.Tryz
open Go.Fw Go.IntWalk Go.Plain
set_option maxRecDepth 100000
set_option maxHeartbeats 8000000
theorem awake_sat : Sat cx.P cx.gl 5 [] (.one (Bo true)) := fnE_ok cx_ok (L := 200) 30 _ _ _ (by kernel_rfl)
theorem within_p (n lo hi : Int) : Sat cx.P cx.gl 38 [I n, I lo, I hi] (.one (Bo (decide (lo ≤ n ∧ n ≤ hi)))) := by
  have := within_sat n lo hi
  rwa [← Bool.decide_and] at this
theorem askErr_mk {a b c d n m u l : Int} (hf : faultErr a b c d n m = 0) (hu : 0 ≤ u ∧ u ≤ 10000000) (hl : 1 ≤ l ∧ l ≤ 100000000) : askErr a b c d n m u l = 0 := by
  unfold askErr
  rw [if_neg (by omega), if_pos hu, if_pos hl]
end Go.Proofs.Tryz
