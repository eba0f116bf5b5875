/- Parts of the proof, joined. -/
import Derived.Test.YtflcnhmckeiacaaGreatDoorWa
import Derived.Test.YtflcnhmckeiacaaGreatDoorD
namespace Go.Proofs.Tryz
open Go.Fw Go.IntWalk Go.Plain
set_option maxRecDepth 100000
set_option maxHeartbeats 8000000
theorem trimmed_sat (l : List Int) (hl : l.length ≤ 4294967296) : Sat cx.P cx.gl 112 [L l] (.one (L (trim l))) := by
  refine Sat_of_awp (fn := f112) cx_ok (by kernel_rfl) (by kernel_rfl) rfl (by kernel_rfl) (Nat.le_of_ble_eq_true rfl) ?_
  repeat ((first | refine oP rfl ?_ | refine rP rfl (fun _ z => z) ?_ | (refine kO 6 rfl ?_; refine rLen rfl rfl rfl rfl rfl rfl ?_) | refine oN ?_ | refine aS ?_ | refine aR ?_ | refine aB ?_ | refine aL ?_); (try conv => whnf))
  refine loop_ind (ι := Nat) (fun n => n ≤ l.length ∧ trimN l n = trimN l l.length) (fun n => n) (fun n => ⟨[(0, vL l), (3, vI n)], [], 0⟩) l.length (canon_auto (by kernel_rfl)) ⟨Nat.le_refl _, rfl⟩ ?_
  rintro n ⟨hn, ht⟩
  cases n with
  | zero =>
    repeat ((first | refine oP rfl ?_ | refine rP rfl (fun _ z => z) ?_ | (refine kO 1 rfl ?_; refine rG (fun _ z => z) ?_) | (refine kO 8 rfl ?_; refine rSlH rfl rfl rfl rfl rfl rfl rfl (by omega) ?_) | refine oN ?_ | refine aS ?_ | refine aR ?_ | refine aX ?_ | refine aT ?_ | refine aC rfl ?_ | refine bF ?_ | refine oZ rfl rfl rfl ?_); (try conv => whnf))
    unfold trim; rw [← ht]; rfl
  | succ n =>
    have e1 : (((n + 1 : Nat) : Int) - 1).toNat = n := by omega
    rw [show trimN l (n + 1) = if l.getD n 0 = 0 then trimN l n else n + 1 from rfl] at ht
    repeat ((first | refine oP rfl ?_ | refine rP rfl (fun _ z => z) ?_ | (refine kO 1 rfl ?_; first | refine rSub rfl rfl rfl (by omega) ?_ | refine rG (fun _ z => z) ?_) | (refine kO 3 rfl ?_; refine rLdr rfl rfl rfl rfl rfl ?_) | (refine kO 5 rfl ?_; refine rIdx rfl rfl rfl rfl rfl rfl rfl (by omega) ?_) | refine oN ?_ | refine aS ?_ | refine aR ?_ | refine aC rfl ?_ | refine oY rfl rfl rfl ?_ | refine oIt rfl rfl rfl (by omega) ?_); (try conv => whnf))
    rw [e1]
    ((refine brp (fun h => ?_) (fun h => ?_)) <;> (try conv => whnf))
    · repeat ((first | refine oP rfl ?_ | refine rP rfl (fun _ z => z) ?_ | (refine kO 1 rfl ?_; refine rSub rfl rfl rfl (by omega) ?_) | refine oN ?_ | refine aR ?_ | refine aK ?_ | refine aB ?_); (try conv => whnf))
      rw [if_pos h] at ht
      exact ⟨n, ⟨by omega, ht⟩, by omega, canon_auto (by rw [show ((n + 1 : Nat) : Int) - 1 = (n : Int) by omega]; kernel_rfl)⟩
    · rw [if_neg h] at ht
      repeat ((first | refine oP rfl ?_ | refine rP rfl (fun _ z => z) ?_ | (refine kO 8 rfl ?_; refine rSlH rfl rfl rfl rfl rfl rfl rfl (by omega) ?_) | refine oN ?_ | refine aS ?_ | refine aR ?_ | refine aX ?_ | refine aT ?_); (try conv => whnf))
      unfold trim
      rw [← ht]; rfl
abbrev Wd (s : Int) (l : List Int) : SV := (true, [J s, .ints l])
theorem wideOf1_sat (s : Int) (l : List Int) (hl : l.length ≤ 4294967296) : Sat cx.P cx.gl 103 [I s, L l] (.one (Wd (if trim l = [] then 0 else s) (trim l))) := by
  have e : ((trim l).length : Int) = 0 ↔ trim l = [] := by rw [← List.length_eq_zero_iff]; omega
  refine Sat_of_awp (fn := f103) cx_ok (by kernel_rfl) (by kernel_rfl) rfl (by kernel_rfl) (Nat.le_of_ble_eq_true rfl) ?_
  repeat ((first | refine oP rfl ?_ | refine rP rfl (fun _ z => z) ?_ | (refine kO 1 rfl ?_; refine rG (fun _ z => z) ?_) | (refine kO 7 rfl ?_; refine rG (fun _ z => ⟨_, trimmed_sat l hl, z⟩) ?_) | (refine kO 6 rfl ?_; refine rLen rfl rfl rfl rfl rfl rfl ?_) | refine oN ?_ | refine aS ?_ | refine aR ?_ | refine aC rfl ?_); (try conv => whnf))
  ((refine brp (fun h => ?_) (fun h => ?_)) <;> (try conv => whnf))
  · repeat ((first | refine oP rfl ?_ | refine rP rfl (fun _ z => z) ?_ | (refine kO 4 rfl ?_; refine rG (fun _ z => z) ?_) | refine oN ?_ | refine aS ?_ | refine aR ?_ | refine aT ?_); (try conv => whnf))
    rw [if_pos (e.1 h)]; rfl
  · repeat ((first | refine oP rfl ?_ | refine rP rfl (fun _ z => z) ?_ | (refine kO 4 rfl ?_; refine rG (fun _ z => z) ?_) | refine oN ?_ | refine aS ?_ | refine aR ?_ | refine aK ?_ | refine aT ?_); (try conv => whnf))
    rw [if_neg (fun hh => h (e.2 hh))]; rfl
/-- A number of any size, as the references hold it. -/
abbrev wd (x : Int) : SV := Wd x.sign (digs x.natAbs)
theorem wideOf_sat {s : Int} {l : List Int} (hl : l.length ≤ 4294967296) (hd : Dg l) (hs : s = 1 ∨ s = -1) : Sat cx.P cx.gl 103 [I s, L l] (.one (wd (s * dval l))) := by
  have h := wideOf1_sat s l hl
  have h0 := dval_nonneg hd
  rw [trim_eq hd] at h
  have e1 : (s * dval l).natAbs = (dval l).toNat := by rcases hs with rfl | rfl <;> omega
  have e2 : (if digs (dval l).toNat = [] then 0 else s) = (s * dval l).sign := by
    by_cases hz : dval l = 0
    · rw [hz]; simp [digs_zero]
    · rw [if_neg (fun hh => by rw [digs_nil] at hh; omega)]
      rcases hs with rfl | rfl
      · rw [Int.one_mul, Int.sign_eq_one_of_pos (by omega)]
      · rw [Int.sign_eq_neg_one_of_neg (by omega)]
  unfold wd
  rw [e1, ← e2]; exact h
theorem WideOf_sat (n : Int) (h : -9223372036854775807 ≤ n ∧ n ≤ 9223372036854775807) : Sat cx.P cx.gl 101 [I n] (.one (wd n)) := by
  have key : ∀ (s x : Int), (s = 1 ∨ s = -1) → 0 ≤ x → s * x = n → x ≤ 9223372036854775807 →
      ∀ (l : List Int) (m : Nat), Dg l ∧ dval l + pw l.length * m = x → m = 0 → l.length ≤ 3 → Sat cx.P cx.gl 103 [I s, L l] (.one (wd n)) := by
    intro s x hs hx hsx hb l m ⟨hd, he⟩ hm hl
    subst hm
    have := wideOf_sat (s := s) (l := l) (by omega) hd hs
    rwa [show s * dval l = n by rw [← hsx, ← he]; simp] at this
  have grow : ∀ (x : Int) (l : List Int) (m : Nat), Dg l ∧ dval l + pw l.length * m = x → Dg (l ++ [(m : Int) % 1000000000]) ∧ dval (l ++ [(m : Int) % 1000000000]) + pw (l ++ [(m : Int) % 1000000000]).length * ((m / 1000000000 : Nat) : Int) = x := by
    intro x l m ⟨hd, he⟩
    refine ⟨fun y hy => ?_, ?_⟩
    · rcases List.mem_append.1 hy with hy | hy
      · exact hd y hy
      · simp at hy; subst hy; omega
    · rw [dval_snoc, List.length_append, List.length_singleton, pw_succ, ← he]
      have : (m : Int) = m % 1000000000 + 1000000000 * ((m / 1000000000 : Nat) : Int) := by omega
      conv => rhs; rw [this]
      rw [Int.mul_add, Int.mul_assoc]; omega
  by_cases hneg : n < 0
  · have hk := key (-1) (-n) (.inr rfl) (by omega) (by omega) (by omega)
    refine Sat_of_awp (fn := f101) cx_ok (by kernel_rfl) (by kernel_rfl) rfl (by kernel_rfl) (Nat.le_of_ble_eq_true rfl) ?_
    repeat ((first | refine oP rfl ?_ | refine rP rfl (fun _ z => z) ?_ | (refine kO 1 rfl ?_; refine rG (fun _ z => z) ?_) | (refine kO 2 rfl ?_; refine rNeg rfl rfl (by omega) ?_) | refine oN ?_ | refine aS ?_ | refine aR ?_ | refine aB ?_ | refine aC rfl ?_ | refine bPt (by omega) ?_ | refine aL ?_); (try conv => whnf))
    refine loop_round ?_
    repeat ((first | refine oP rfl ?_ | refine rP rfl (fun _ z => z) ?_ | (refine kO 1 rfl ?_; first | refine rQuo rfl rfl rfl (by omega) ?_ | refine rRem rfl rfl rfl (by omega) ?_ | refine rG (fun _ z => z) ?_) | refine oN ?_ | refine aS ?_ | refine aR ?_ | refine aK ?_ | refine aB ?_ | refine aC rfl ?_ | refine bPt (by omega) ?_ | refine rG (fun _ z => ⟨(by (rfl)), (by (((try unfold SC.len); (try unfold SC.uni); (try unfold LIM); (try simp); (try omega); done))), z⟩) ?_); (try conv => whnf))
    have g0 := grow (-n) [] (-n).toNat ⟨dg_nil, by simp [dval, pw]; omega⟩
    refine loop_ind (ι := List Int × Nat) (fun p => (Dg p.1 ∧ dval p.1 + pw p.1.length * p.2 = -n) ∧ p.1.length ≤ 3 ∧ (p.1.length ≤ 1 → p.2 ≤ 9223372036) ∧ (p.1.length = 2 → p.2 ≤ 9) ∧ (p.1.length = 3 → p.2 = 0) ∧ 1 ≤ p.1.length) (fun p => p.2) (fun p => ⟨[(0, vI p.2), (2, pP 0), (3, vI (-1)), (4, pO 1)], [(0, some (.box 106 [.st (J 0), .nil])), (1, some (.row true 1 (.ints p.1)))], 2⟩) ([-n % 1000000000], (-n).toNat / 1000000000)
      (canon_auto (by rw [show (((-n).toNat / 1000000000 : Nat) : Int) = -n / 1000000000 by omega]; kernel_rfl)) ⟨by rw [show ((-n).toNat : Int) = -n by omega] at g0; exact g0, by simp, by simp; omega, by simp, by simp, by simp⟩ ?_
    rintro ⟨l, m⟩ ⟨h1, h2, h3, h4, h5, h6⟩
    simp only at h1 h2 h3 h4 h5 h6
    repeat ((first | refine oP rfl ?_ | refine rP rfl (fun _ z => z) ?_ | (refine kO 1 rfl ?_; refine rG (fun _ z => z) ?_) | refine oN ?_ | refine aS ?_ | refine aR ?_ | refine aC rfl ?_); (try conv => whnf))
    ((refine brp (fun h => ?_) (fun h => ?_)) <;> (try conv => whnf))
    · have g := grow (-n) l m h1
      repeat ((first | refine oP rfl ?_ | refine rP rfl (fun _ z => z) ?_ | (refine kO 1 rfl ?_; first | refine rQuo rfl rfl rfl (by omega) ?_ | refine rRem rfl rfl rfl (by omega) ?_) | refine oN ?_ | refine aS ?_ | refine aR ?_ | refine aK ?_ | refine aB ?_ | refine rG (fun _ z => ⟨(by (rfl)), (by (((try unfold SC.len); (try unfold SC.uni); (try unfold LIM); (try simp); (try omega); done))), z⟩) ?_); (try conv => whnf))
      exact ⟨(l ++ [(m : Int) % 1000000000], m / 1000000000), ⟨g, by simp; omega, by simp; omega, by simp; omega, by simp; omega, by simp⟩, by simp only; omega, canon_auto (by rw [show ((m / 1000000000 : Nat) : Int) = (m : Int) / 1000000000 by omega]; kernel_rfl)⟩
    · repeat ((first | refine oP rfl ?_ | refine rP rfl (fun _ z => z) ?_ | (refine kO 4 rfl ?_; refine rG (fun _ z => z) ?_) | (refine kO 7 rfl ?_; refine rG (fun _ z => ⟨_, hk l m h1 (by omega) h2, z⟩) ?_) | refine oN ?_ | refine aS ?_ | refine aR ?_ | refine aX ?_ | refine aT ?_); (try conv => whnf))
      rfl
  · have hk := key 1 n (.inl rfl) (by omega) (by omega) (by omega)
    by_cases hz : n = 0
    · subst hz
      have hk := hk [] 0 ⟨dg_nil, by simp [dval]⟩ rfl (by simp)
      refine Sat_of_awp (fn := f101) cx_ok (by kernel_rfl) (by kernel_rfl) rfl (by kernel_rfl) (Nat.le_of_ble_eq_true rfl) ?_
      repeat ((first | refine oP rfl ?_ | refine rP rfl (fun _ z => z) ?_ | (refine kO 1 rfl ?_; refine rG (fun _ z => z) ?_) | refine oN ?_ | refine aS ?_ | refine aR ?_ | refine aK ?_ | refine aB ?_ | refine aC rfl ?_ | refine bF ?_ | refine aL ?_); (try conv => whnf))
      refine loop_round ?_
      repeat ((first | refine oP rfl ?_ | refine rP rfl (fun _ z => z) ?_ | (refine kO 1 rfl ?_; refine rG (fun _ z => z) ?_) | (refine kO 4 rfl ?_; refine rG (fun _ z => z) ?_) | (refine kO 7 rfl ?_; refine rG (fun _ z => ⟨_, hk, z⟩) ?_) | refine oN ?_ | refine aS ?_ | refine aR ?_ | refine aX ?_ | refine aT ?_ | refine aC rfl ?_ | refine bF ?_); (try conv => whnf))
      rfl
    · refine Sat_of_awp (fn := f101) cx_ok (by kernel_rfl) (by kernel_rfl) rfl (by kernel_rfl) (Nat.le_of_ble_eq_true rfl) ?_
      repeat ((first | refine oP rfl ?_ | refine rP rfl (fun _ z => z) ?_ | (refine kO 1 rfl ?_; refine rG (fun _ z => z) ?_) | refine oN ?_ | refine aS ?_ | refine aR ?_ | refine aK ?_ | refine aB ?_ | refine aC rfl ?_ | refine bPf (by omega) ?_ | refine aL ?_); (try conv => whnf))
      refine loop_round ?_
      repeat ((first | refine oP rfl ?_ | refine rP rfl (fun _ z => z) ?_ | (refine kO 1 rfl ?_; first | refine rQuo rfl rfl rfl (by omega) ?_ | refine rRem rfl rfl rfl (by omega) ?_ | refine rG (fun _ z => z) ?_) | refine oN ?_ | refine aS ?_ | refine aR ?_ | refine aK ?_ | refine aB ?_ | refine aC rfl ?_ | refine bPt (by omega) ?_ | refine rG (fun _ z => ⟨(by (rfl)), (by (((try unfold SC.len); (try unfold SC.uni); (try unfold LIM); (try simp); (try omega); done))), z⟩) ?_); (try conv => whnf))
      have g0 := grow n [] n.toNat ⟨dg_nil, by simp [dval, pw]; omega⟩
      refine loop_ind (ι := List Int × Nat) (fun p => (Dg p.1 ∧ dval p.1 + pw p.1.length * p.2 = n) ∧ p.1.length ≤ 3 ∧ (p.1.length ≤ 1 → p.2 ≤ 9223372036) ∧ (p.1.length = 2 → p.2 ≤ 9) ∧ (p.1.length = 3 → p.2 = 0) ∧ 1 ≤ p.1.length) (fun p => p.2) (fun p => ⟨[(0, vI p.2), (2, pP 0), (3, vI 1), (4, pO 1)], [(0, some (.box 106 [.st (J 0), .nil])), (1, some (.row true 1 (.ints p.1)))], 2⟩) ([n % 1000000000], n.toNat / 1000000000)
        (canon_auto (by rw [show ((n.toNat / 1000000000 : Nat) : Int) = n / 1000000000 by omega]; kernel_rfl)) ⟨by rw [show (n.toNat : Int) = n by omega] at g0; exact g0, by simp, by simp; omega, by simp, by simp, by simp⟩ ?_
      rintro ⟨l, m⟩ ⟨h1, h2, h3, h4, h5, h6⟩
      simp only at h1 h2 h3 h4 h5 h6
      repeat ((first | refine oP rfl ?_ | refine rP rfl (fun _ z => z) ?_ | (refine kO 1 rfl ?_; refine rG (fun _ z => z) ?_) | refine oN ?_ | refine aS ?_ | refine aR ?_ | refine aC rfl ?_); (try conv => whnf))
      ((refine brp (fun h => ?_) (fun h => ?_)) <;> (try conv => whnf))
      · have g := grow n l m h1
        repeat ((first | refine oP rfl ?_ | refine rP rfl (fun _ z => z) ?_ | (refine kO 1 rfl ?_; first | refine rQuo rfl rfl rfl (by omega) ?_ | refine rRem rfl rfl rfl (by omega) ?_) | refine oN ?_ | refine aS ?_ | refine aR ?_ | refine aK ?_ | refine aB ?_ | refine rG (fun _ z => ⟨(by (rfl)), (by (((try unfold SC.len); (try unfold SC.uni); (try unfold LIM); (try simp); (try omega); done))), z⟩) ?_); (try conv => whnf))
        exact ⟨(l ++ [(m : Int) % 1000000000], m / 1000000000), ⟨g, by simp; omega, by simp; omega, by simp; omega, by simp; omega, by simp⟩, by simp only; omega, canon_auto (by rw [show ((m / 1000000000 : Nat) : Int) = (m : Int) / 1000000000 by omega]; kernel_rfl)⟩
      · repeat ((first | refine oP rfl ?_ | refine rP rfl (fun _ z => z) ?_ | (refine kO 4 rfl ?_; refine rG (fun _ z => z) ?_) | (refine kO 7 rfl ?_; refine rG (fun _ z => ⟨_, hk l m h1 (by omega) h2, z⟩) ?_) | refine oN ?_ | refine aS ?_ | refine aR ?_ | refine aX ?_ | refine aT ?_); (try conv => whnf))
        rfl
end Go.Proofs.Tryz

namespace Go.Proofs.Tryz
open Go.Fw Go.IntWalk Go.Plain
set_option maxRecDepth 100000
set_option maxHeartbeats 8000000
theorem cmpDigits_sat (x y : Nat) (hx : (digs x).length ≤ 1000000) (_hy : (digs y).length ≤ 1000000) : Sat cx.P cx.gl 115 [L (digs x), L (digs y)] (.one (I (cmpN x y))) := by
  have cx' := canon_digs x
  have cy' := canon_digs y
  have vx := dval_digs x
  have vy := dval_digs y
  have l1 : (digs x).length < (digs y).length → x < y := fun h => by have := len_lt cx' cy' h; omega
  have l2 : (digs y).length < (digs x).length → y < x := fun h => by have := len_lt cy' cx' h; omega
  have t1 : ∀ i, (digs x).length = (digs y).length → i < (digs x).length → (digs x).drop (i + 1) = (digs y).drop (i + 1) → (digs x).getD i 0 < (digs y).getD i 0 → x < y := fun i a b c d => by have := top_lt cx'.1 cy'.1 a b c d; omega
  have t2 : ∀ i, (digs x).length = (digs y).length → i < (digs x).length → (digs x).drop (i + 1) = (digs y).drop (i + 1) → (digs y).getD i 0 < (digs x).getD i 0 → y < x := fun i a b c d => by have := top_lt cy'.1 cx'.1 a.symm (by omega) c.symm d; omega
  have t3 : digs x = digs y → x = y := fun h => by rw [h] at vx; omega
  generalize digs x = a at *
  generalize digs y = b at *
  clear vx vy cx' cy'
  unfold cmpN
  refine Sat_of_awp (fn := f115) cx_ok (by kernel_rfl) (by kernel_rfl) rfl (by kernel_rfl) (Nat.le_of_ble_eq_true rfl) ?_
  repeat ((first | refine oP rfl ?_ | refine rP rfl (fun _ z => z) ?_ | (refine kO 1 rfl ?_; refine rG (fun _ z => z) ?_) | (refine kO 6 rfl ?_; refine rLen rfl rfl rfl rfl rfl rfl ?_) | refine oN ?_ | refine aS ?_ | refine aR ?_ | refine aC rfl ?_); (try conv => whnf))
  ((refine brp (fun h => ?_) (fun h => ?_)) <;> (try conv => whnf))
  · repeat ((first | refine oP rfl ?_ | refine rP rfl (fun _ z => z) ?_ | (refine kO 1 rfl ?_; refine rG (fun _ z => z) ?_) | (refine kO 6 rfl ?_; refine rLen rfl rfl rfl rfl rfl rfl ?_) | refine oN ?_ | refine aS ?_ | refine aR ?_ | refine aC rfl ?_); (try conv => whnf))
    ((refine brp (fun h => ?_) (fun h => ?_)) <;> (try conv => whnf))
    · repeat ((first | refine oP rfl ?_ | refine rP rfl (fun _ z => z) ?_ | refine oN ?_ | refine aS ?_ | refine aR ?_ | refine aT ?_); (try conv => whnf))
      rw [if_pos (l1 (by omega))]
    · repeat ((first | refine oP rfl ?_ | refine rP rfl (fun _ z => z) ?_ | refine oN ?_ | refine aS ?_ | refine aR ?_ | refine aK ?_ | refine aT ?_); (try conv => whnf))
      have := l2 (by omega)
      rw [if_neg (by omega), if_pos this]
  · have hl : a.length = b.length := by omega
    repeat ((first | refine oP rfl ?_ | refine rP rfl (fun _ z => z) ?_ | (refine kO 1 rfl ?_; refine rSub rfl rfl rfl (by omega) ?_) | (refine kO 6 rfl ?_; refine rLen rfl rfl rfl rfl rfl rfl ?_) | refine oN ?_ | refine aS ?_ | refine aR ?_ | refine aK ?_ | refine aB ?_ | refine aL ?_); (try conv => whnf))
    refine loop_ind (ι := Nat) (fun m => m ≤ a.length ∧ a.drop m = b.drop m) (fun m => m) (fun m => ⟨[(0, vL a), (1, vL b), (5, vI ((m : Int) - 1))], [], 0⟩) a.length (canon_auto (by kernel_rfl)) ⟨Nat.le_refl _, by rw [List.drop_length, hl, List.drop_length]⟩ ?_
    rintro m ⟨hm, hd⟩
    cases m with
    | zero =>
      repeat ((first | refine oP rfl ?_ | refine rP rfl (fun _ z => z) ?_ | (refine kO 1 rfl ?_; refine rG (fun _ z => z) ?_) | refine oN ?_ | refine aS ?_ | refine aR ?_ | refine aX ?_ | refine aT ?_ | refine aC rfl ?_ | refine bF ?_); (try conv => whnf))
      have := t3 (by simpa using hd)
      subst this
      simp
    | succ m =>
      have e1 : (((m + 1 : Nat) : Int) - 1).toNat = m := by omega
      have e2 : ((m + 1 : Nat) : Int) - 1 = (m : Int) := by omega
      rw [e2]
      repeat ((first | refine oP rfl ?_ | refine rP rfl (fun _ z => z) ?_ | (refine kO 1 rfl ?_; refine rG (fun _ z => z) ?_) | (refine kO 3 rfl ?_; refine rLdr rfl rfl rfl rfl rfl ?_) | (refine kO 5 rfl ?_; refine rIdN rfl rfl rfl rfl rfl rfl rfl (by omega) ?_) | refine oN ?_ | refine aS ?_ | refine aR ?_ | refine aK ?_ | refine aB ?_ | refine aC rfl ?_ | refine bT ?_ | refine dI (by kernel_rfl) ?_); (try conv => whnf))
      ((refine brp (fun h => ?_) (fun h => ?_)) <;> (try conv => whnf))
      · repeat ((first | refine oP rfl ?_ | refine rP rfl (fun _ z => z) ?_ | refine oN ?_ | refine aS ?_ | refine aR ?_ | refine aT ?_); (try conv => whnf))
        rw [if_pos (t1 m hl (by omega) hd h)]
      · repeat ((first | refine oP rfl ?_ | refine rP rfl (fun _ z => z) ?_ | (refine kO 1 rfl ?_; refine rG (fun _ z => z) ?_) | (refine kO 3 rfl ?_; refine rLdr rfl rfl rfl rfl rfl ?_) | (refine kO 5 rfl ?_; refine rIdN rfl rfl rfl rfl rfl rfl rfl (by omega) ?_) | refine oN ?_ | refine aS ?_ | refine aR ?_ | refine aK ?_ | refine aC rfl ?_ | refine dI (by kernel_rfl) ?_); (try conv => whnf))
        ((refine brp (fun h => ?_) (fun h => ?_)) <;> (try conv => whnf))
        · repeat ((first | refine oP rfl ?_ | refine rP rfl (fun _ z => z) ?_ | refine oN ?_ | refine aS ?_ | refine aR ?_ | refine aT ?_); (try conv => whnf))
          have := t2 m hl (by omega) hd h
          rw [if_neg (by omega), if_pos this]
        · repeat ((first | refine oP rfl ?_ | refine rP rfl (fun _ z => z) ?_ | (refine kO 1 rfl ?_; refine rSub rfl rfl rfl (by omega) ?_) | refine oN ?_ | refine aR ?_ | refine aK ?_); (try conv => whnf))
          refine ⟨m, ⟨by omega, ?_⟩, by omega, canon_auto (by kernel_rfl)⟩
          rw [find_drop (d := 0) (show m < a.length by omega), find_drop (d := 0) (show m < b.length by omega), hd]
          congr 1
          omega
theorem digit_sat (l : List Int) (i : Nat) : Sat cx.P cx.gl 118 [L l, I i] (.one (I (l.getD i 0))) := by
  refine Sat_of_awp (fn := f118) cx_ok (by kernel_rfl) (by kernel_rfl) rfl (by kernel_rfl) (Nat.le_of_ble_eq_true rfl) ?_
  repeat ((first | refine oP rfl ?_ | refine rP rfl (fun _ z => z) ?_ | (refine kO 1 rfl ?_; refine rG (fun _ z => z) ?_) | (refine kO 6 rfl ?_; refine rLen rfl rfl rfl rfl rfl rfl ?_) | refine oN ?_ | refine aS ?_ | refine aR ?_ | refine aC rfl ?_); (try conv => whnf))
  ((refine brp (fun h => ?_) (fun h => ?_)) <;> (try conv => whnf))
  · repeat ((first | refine oP rfl ?_ | refine rP rfl (fun _ z => z) ?_ | (refine kO 3 rfl ?_; refine rLdr rfl rfl rfl rfl rfl ?_) | (refine kO 5 rfl ?_; refine rIdN rfl rfl rfl rfl rfl rfl rfl (by omega) ?_) | refine oN ?_ | refine aS ?_ | refine aR ?_ | refine aT ?_); (try conv => whnf))
  · repeat ((first | refine oP rfl ?_ | refine rP rfl (fun _ z => z) ?_ | refine oN ?_ | refine aS ?_ | refine aR ?_ | refine aK ?_ | refine aT ?_); (try conv => whnf))
    exact res_i (by simp [List.getD_eq_getElem?_getD, List.getElem?_eq_none (by omega : l.length ≤ i)])
theorem addDigits_sat {a b : List Int} (ha : Dg a) (hb : Dg b) (hl : a.length ≤ 1000000 ∧ b.length ≤ 1000000) (hne : a ≠ []) : Sat cx.P cx.gl 117 [L a, L b] (.own 1 (.ints (addL a b (addN a b)))) := by
  have hpos : 0 < a.length := List.length_pos_iff.2 hne
  have hN : addN a b ≤ 1000001 := by unfold addN; split <;> omega
  have hN1 : 1 ≤ addN a b := by unfold addN; omega
  have dig := digit_sat
  refine Sat_of_awp (fn := f117) cx_ok (by kernel_rfl) (by kernel_rfl) rfl (by kernel_rfl) (Nat.le_of_ble_eq_true rfl) ?_
  repeat ((first | refine oP rfl ?_ | refine rP rfl (fun _ z => z) ?_ | refine oN ?_ | refine aS ?_ | refine aR ?_ | refine aB ?_ | refine aL ?_); (try conv => whnf))
  refine loop_round ?_
  have d0 := dig a 0
  have d0' := dig b 0
  have d1 := ha.get 0
  have d2 := hb.get 0
  repeat ((first | refine oP rfl ?_ | refine rP rfl (fun _ z => z) ?_ | (refine kO 1 rfl ?_; first | refine rAdd rfl rfl rfl (by omega) ?_ | refine rQuo rfl rfl rfl (by omega) ?_ | refine rRem rfl rfl rfl (by omega) ?_ | refine rG (fun _ z => z) ?_) | (refine kO 7 rfl ?_; first | refine rG (fun _ z => ⟨_, d0, z⟩) ?_ | refine rG (fun _ z => ⟨_, d0', z⟩) ?_) | (refine kO 6 rfl ?_; refine rLen rfl rfl rfl rfl rfl rfl ?_) | refine oN ?_ | refine aS ?_ | refine aR ?_ | refine aK ?_ | refine aB ?_ | refine aC rfl ?_ | refine bT ?_ | refine oZ rfl rfl rfl ?_ | refine oUt rfl rfl rfl (by omega) ?_ | refine rG (fun _ z => ⟨(by (rfl)), (by (((try unfold SC.len); (try unfold SC.uni); (try unfold LIM); (try simp); (try omega); done))), z⟩) ?_); (try conv => whnf))
  refine loop_ind (ι := Nat) (fun i => 1 ≤ i ∧ i ≤ addN a b) (fun i => addN a b - i) (fun i => ⟨[(0, vL a), (1, vL b), (5, pO 0), (6, vI (addC a b i)), (7, vI i)], [(0, some (.row true 1 (.ints (addL a b i))))], 1⟩) 1 (canon_auto (by kernel_rfl)) ⟨Nat.le_refl _, hN1⟩ ?_
  clear d0 d0' d1 d2
  rintro i ⟨hi0, hi⟩
  have hc := addN_cond ha hb hi
  have d0 := dig a i
  have d0' := dig b i
  have d1 := ha.get i
  have d2 := hb.get i
  have d3 := addC_bound ha hb i
  have d4 := addL_len a b i
  have d5 := addL_succ a b i
  by_cases hlt : i < addN a b
  · have hc' := hc.2 hlt
    repeat' ((first | refine oP rfl ?_ | refine rP rfl (fun _ z => z) ?_ | (refine kO 1 rfl ?_; first | refine rAdd rfl rfl rfl (by omega) ?_ | refine rQuo rfl rfl rfl (by omega) ?_ | refine rRem rfl rfl rfl (by omega) ?_ | refine rG (fun _ z => z) ?_) | (refine kO 7 rfl ?_; first | refine rG (fun _ z => ⟨_, d0, z⟩) ?_ | refine rG (fun _ z => ⟨_, d0', z⟩) ?_) | (refine kO 6 rfl ?_; refine rLen rfl rfl rfl rfl rfl rfl ?_) | refine oN ?_ | refine aS ?_ | refine aR ?_ | refine aK ?_ | refine aB ?_ | refine aC rfl ?_ | refine bT ?_ | refine bPt (by omega) ?_ | refine oY rfl rfl rfl ?_ | refine oZ rfl rfl rfl ?_ | refine rG (fun _ z => ⟨(by (rfl)), (by (exact lnS (by omega))), z⟩) ?_ | refine opsA_unlessp rfl rfl rfl (fun h => ?_) (fun h => ?_)) <;> (try conv => whnf))
    all_goals exact ⟨i + 1, ⟨by omega, hlt⟩, by omega, canon_auto (by rw [d5]; kernel_rfl)⟩
  · have hc' : ¬ (i < a.length ∨ i < b.length ∨ addC a b i > 0) := fun h => hlt (hc.1 h)
    repeat ((first | refine oP rfl ?_ | refine rP rfl (fun _ z => z) ?_ | (refine kO 1 rfl ?_; refine rG (fun _ z => z) ?_) | (refine kO 6 rfl ?_; refine rLen rfl rfl rfl rfl rfl rfl ?_) | refine oN ?_ | refine aS ?_ | refine aR ?_ | refine aX ?_ | refine aT ?_ | refine aC rfl ?_ | refine bPf (by omega) ?_ | refine oY rfl rfl rfl ?_ | refine oUf rfl rfl rfl (by omega) ?_); (try conv => whnf))
    rw [show i = addN a b by omega]
theorem subDigits_sat {a b : List Int} (ha : Dg a) (hb : Dg b) (hl : a.length ≤ 1000000 ∧ b.length ≤ a.length) (hle : dval b ≤ dval a) : Sat cx.P cx.gl 116 [L a, L b] (.one (L (digs (dval a - dval b).toNat))) := by
  have hd := sbL_dg ha hb a.length
  have he := sbL_end ha hb hl.2 hle
  have dig := digit_sat
  have ht := trimmed_sat (sbL a b a.length) (by rw [sbL_len]; omega)
  rw [trim_eq hd, he] at ht
  by_cases hne : a.length = 0
  · have e1 : sbL a b a.length = [] := by rw [hne]; rfl
    rw [e1] at ht
    refine Sat_of_awp (fn := f116) cx_ok (by kernel_rfl) (by kernel_rfl) rfl (by kernel_rfl) (Nat.le_of_ble_eq_true rfl) ?_
    repeat ((first | refine oP rfl ?_ | refine rP rfl (fun _ z => z) ?_ | refine oN ?_ | refine aS ?_ | refine aR ?_ | refine aB ?_ | refine aL ?_); (try conv => whnf))
    refine loop_round ?_
    repeat ((first | refine oP rfl ?_ | refine rP rfl (fun _ z => z) ?_ | (refine kO 1 rfl ?_; refine rG (fun _ z => z) ?_) | (refine kO 7 rfl ?_; refine rG (fun _ z => ⟨_, ht, z⟩) ?_) | (refine kO 6 rfl ?_; refine rLen rfl rfl rfl rfl rfl rfl ?_) | refine oN ?_ | refine aS ?_ | refine aR ?_ | refine aX ?_ | refine aT ?_ | refine aC rfl ?_ | refine bPf (by omega) ?_); (try conv => whnf))
    rfl
  · refine Sat_of_awp (fn := f116) cx_ok (by kernel_rfl) (by kernel_rfl) rfl (by kernel_rfl) (Nat.le_of_ble_eq_true rfl) ?_
    repeat ((first | refine oP rfl ?_ | refine rP rfl (fun _ z => z) ?_ | refine oN ?_ | refine aS ?_ | refine aR ?_ | refine aB ?_ | refine aL ?_); (try conv => whnf))
    refine loop_round ?_
    have d0' := dig b 0
    have d1 := ha.get 0
    have d2 := hb.get 0
    repeat ((first | refine oP rfl ?_ | refine rP rfl (fun _ z => z) ?_ | (refine kO 1 rfl ?_; first | refine rSub rfl rfl rfl (by omega) ?_ | refine rG (fun _ z => z) ?_) | (refine kO 3 rfl ?_; refine rLdr rfl rfl rfl rfl rfl ?_) | (refine kO 5 rfl ?_; refine rIdN rfl rfl rfl rfl rfl rfl rfl (by omega) ?_) | (refine kO 7 rfl ?_; refine rG (fun _ z => ⟨_, d0', z⟩) ?_) | (refine kO 6 rfl ?_; refine rLen rfl rfl rfl rfl rfl rfl ?_) | refine oN ?_ | refine aS ?_ | refine aR ?_ | refine aK ?_ | refine aB ?_ | refine aC rfl ?_ | refine bPt (by omega) ?_ | refine dI (by kernel_rfl) ?_); (try conv => whnf))
    have g5 : sbL a b 1 = [sbD a b 0] := rfl
    ((refine brp (fun h => ?_) (fun h => ?_)) <;> (try conv => whnf))
    · have e1 : sbB a b 1 = 1 := if_pos h
      have e2 : sbD a b 0 = a.getD 0 0 - b.getD 0 0 - 0 + 1000000000 := if_pos h
      repeat ((first | refine oP rfl ?_ | refine rP rfl (fun _ z => z) ?_ | (refine kO 1 rfl ?_; refine rAdd rfl rfl rfl (by omega) ?_) | refine oN ?_ | refine aR ?_ | refine rG (fun _ z => ⟨(by (rfl)), (by (((try unfold SC.len); (try unfold SC.uni); (try unfold LIM); (try simp); (try omega); done))), z⟩) ?_); (try conv => whnf))
      refine loop_ind (ι := Nat) (fun i => 1 ≤ i ∧ i ≤ a.length) (fun i => a.length - i) (fun i => ⟨[(0, vL a), (1, vL b), (5, pO 0), (6, vI (sbB a b i)), (7, vI i)], [(0, some (.row true 1 (.ints (sbL a b i))))], 1⟩) 1 (canon_auto (by rw [g5, e1, e2]; kernel_rfl)) ⟨Nat.le_refl _, by omega⟩ ?_
      clear d0' d1 d2 h e1 e2
      rintro i ⟨hi0, hi⟩
      have d0' := dig b i
      have d1 := ha.get i
      have d2 := hb.get i
      have d3 := sbB_bound a b i
      have d4 := sbL_len a b i
      have d5 := sbL_succ a b i
      repeat ((first | refine oP rfl ?_ | refine rP rfl (fun _ z => z) ?_ | (refine kO 1 rfl ?_; refine rG (fun _ z => z) ?_) | (refine kO 6 rfl ?_; refine rLen rfl rfl rfl rfl rfl rfl ?_) | refine oN ?_ | refine aS ?_ | refine aR ?_ | refine aC rfl ?_); (try conv => whnf))
      ((refine brp (fun h => ?_) (fun h => ?_)) <;> (try conv => whnf))
      · have hlt : i < a.length := by omega
        repeat ((first | refine oP rfl ?_ | refine rP rfl (fun _ z => z) ?_ | (refine kO 1 rfl ?_; first | refine rSub rfl rfl rfl (by omega) ?_ | refine rG (fun _ z => z) ?_) | (refine kO 3 rfl ?_; refine rLdr rfl rfl rfl rfl rfl ?_) | (refine kO 5 rfl ?_; refine rIdN rfl rfl rfl rfl rfl rfl rfl (by omega) ?_) | (refine kO 7 rfl ?_; refine rG (fun _ z => ⟨_, d0', z⟩) ?_) | refine oN ?_ | refine aS ?_ | refine aR ?_ | refine aK ?_ | refine aB ?_ | refine aC rfl ?_ | refine dI (by kernel_rfl) ?_); (try conv => whnf))
        ((refine brp (fun h => ?_) (fun h => ?_)) <;> (try conv => whnf))
        · have f1 : sbB a b (i + 1) = 1 := if_pos h
          have f2 : sbD a b i = a.getD i 0 - b.getD i 0 - sbB a b i + 1000000000 := if_pos h
          repeat ((first | refine oP rfl ?_ | refine rP rfl (fun _ z => z) ?_ | (refine kO 1 rfl ?_; refine rAdd rfl rfl rfl (by omega) ?_) | refine oN ?_ | refine aR ?_ | refine rG (fun _ z => ⟨(by (rfl)), (by (exact lnS (by omega))), z⟩) ?_); (try conv => whnf))
          exact ⟨i + 1, ⟨by omega, hlt⟩, by omega, canon_auto (by rw [d5, f1, f2]; kernel_rfl)⟩
        · have f1 : sbB a b (i + 1) = 0 := if_neg h
          have f2 : sbD a b i = a.getD i 0 - b.getD i 0 - sbB a b i := if_neg h
          repeat ((first | refine oP rfl ?_ | refine rP rfl (fun _ z => z) ?_ | (refine kO 1 rfl ?_; refine rAdd rfl rfl rfl (by omega) ?_) | refine oN ?_ | refine aR ?_ | refine aK ?_ | refine rG (fun _ z => ⟨(by (rfl)), (by (exact lnS (by omega))), z⟩) ?_); (try conv => whnf))
          exact ⟨i + 1, ⟨by omega, hlt⟩, by omega, canon_auto (by rw [d5, f1, f2]; kernel_rfl)⟩
      · obtain rfl : i = a.length := by omega
        repeat ((first | refine oP rfl ?_ | refine rP rfl (fun _ z => z) ?_ | (refine kO 7 rfl ?_; refine rG (fun _ z => ⟨_, ht, z⟩) ?_) | refine oN ?_ | refine aS ?_ | refine aR ?_ | refine aX ?_ | refine aT ?_); (try conv => whnf))
        rfl
    · have e1 : sbB a b 1 = 0 := if_neg h
      have e2 : sbD a b 0 = a.getD 0 0 - b.getD 0 0 - 0 := if_neg h
      repeat ((first | refine oP rfl ?_ | refine rP rfl (fun _ z => z) ?_ | (refine kO 1 rfl ?_; refine rAdd rfl rfl rfl (by omega) ?_) | refine oN ?_ | refine aR ?_ | refine aK ?_ | refine rG (fun _ z => ⟨(by (rfl)), (by (((try unfold SC.len); (try unfold SC.uni); (try unfold LIM); (try simp); (try omega); done))), z⟩) ?_); (try conv => whnf))
      refine loop_ind (ι := Nat) (fun i => 1 ≤ i ∧ i ≤ a.length) (fun i => a.length - i) (fun i => ⟨[(0, vL a), (1, vL b), (5, pO 0), (6, vI (sbB a b i)), (7, vI i)], [(0, some (.row true 1 (.ints (sbL a b i))))], 1⟩) 1 (canon_auto (by rw [g5, e1, e2]; kernel_rfl)) ⟨Nat.le_refl _, by omega⟩ ?_
      clear d0' d1 d2 h e1 e2
      rintro i ⟨hi0, hi⟩
      have d0' := dig b i
      have d1 := ha.get i
      have d2 := hb.get i
      have d3 := sbB_bound a b i
      have d4 := sbL_len a b i
      have d5 := sbL_succ a b i
      repeat ((first | refine oP rfl ?_ | refine rP rfl (fun _ z => z) ?_ | (refine kO 1 rfl ?_; refine rG (fun _ z => z) ?_) | (refine kO 6 rfl ?_; refine rLen rfl rfl rfl rfl rfl rfl ?_) | refine oN ?_ | refine aS ?_ | refine aR ?_ | refine aC rfl ?_); (try conv => whnf))
      ((refine brp (fun h => ?_) (fun h => ?_)) <;> (try conv => whnf))
      · have hlt : i < a.length := by omega
        repeat ((first | refine oP rfl ?_ | refine rP rfl (fun _ z => z) ?_ | (refine kO 1 rfl ?_; first | refine rSub rfl rfl rfl (by omega) ?_ | refine rG (fun _ z => z) ?_) | (refine kO 3 rfl ?_; refine rLdr rfl rfl rfl rfl rfl ?_) | (refine kO 5 rfl ?_; refine rIdN rfl rfl rfl rfl rfl rfl rfl (by omega) ?_) | (refine kO 7 rfl ?_; refine rG (fun _ z => ⟨_, d0', z⟩) ?_) | refine oN ?_ | refine aS ?_ | refine aR ?_ | refine aK ?_ | refine aB ?_ | refine aC rfl ?_ | refine dI (by kernel_rfl) ?_); (try conv => whnf))
        ((refine brp (fun h => ?_) (fun h => ?_)) <;> (try conv => whnf))
        · have f1 : sbB a b (i + 1) = 1 := if_pos h
          have f2 : sbD a b i = a.getD i 0 - b.getD i 0 - sbB a b i + 1000000000 := if_pos h
          repeat ((first | refine oP rfl ?_ | refine rP rfl (fun _ z => z) ?_ | (refine kO 1 rfl ?_; refine rAdd rfl rfl rfl (by omega) ?_) | refine oN ?_ | refine aR ?_ | refine rG (fun _ z => ⟨(by (rfl)), (by (exact lnS (by omega))), z⟩) ?_); (try conv => whnf))
          exact ⟨i + 1, ⟨by omega, hlt⟩, by omega, canon_auto (by rw [d5, f1, f2]; kernel_rfl)⟩
        · have f1 : sbB a b (i + 1) = 0 := if_neg h
          have f2 : sbD a b i = a.getD i 0 - b.getD i 0 - sbB a b i := if_neg h
          repeat ((first | refine oP rfl ?_ | refine rP rfl (fun _ z => z) ?_ | (refine kO 1 rfl ?_; refine rAdd rfl rfl rfl (by omega) ?_) | refine oN ?_ | refine aR ?_ | refine aK ?_ | refine rG (fun _ z => ⟨(by (rfl)), (by (exact lnS (by omega))), z⟩) ?_); (try conv => whnf))
          exact ⟨i + 1, ⟨by omega, hlt⟩, by omega, canon_auto (by rw [d5, f1, f2]; kernel_rfl)⟩
      · obtain rfl : i = a.length := by omega
        repeat ((first | refine oP rfl ?_ | refine rP rfl (fun _ z => z) ?_ | (refine kO 7 rfl ?_; refine rG (fun _ z => ⟨_, ht, z⟩) ?_) | refine oN ?_ | refine aS ?_ | refine aR ?_ | refine aX ?_ | refine aT ?_); (try conv => whnf))
        rfl
end Go.Proofs.Tryz

namespace Go.Proofs.Tryz
open Go.Fw Go.IntWalk Go.Plain
set_option maxRecDepth 100000
set_option maxHeartbeats 8000000
/-- A number of at most k digits. -/
def Sz (k : Nat) (x : Int) : Prop := (digs x.natAbs).length ≤ k
theorem sz_of {k : Nat} {x : Int} (h : (x.natAbs : Int) < pw k) : Sz k x := digs_len_le h
theorem sz_lt {k : Nat} {x : Int} (h : Sz k x) : (x.natAbs : Int) < pw k := by
  have h1 := dval_lt (dg_digs x.natAbs)
  rw [dval_digs] at h1
  have h2 := pw_mono h
  omega
theorem Sz.mono {k m : Nat} {x : Int} (h : Sz k x) (hm : k ≤ m) : Sz m x := Nat.le_trans h hm
theorem Sz.neg {k : Nat} {x : Int} (h : Sz k x) : Sz k (-x) := by unfold Sz at *; rw [Int.natAbs_neg]; exact h
theorem Sz.add {k : Nat} {x y : Int} (hx : Sz k x) (hy : Sz k y) : Sz (k + 1) (x + y) := by
  have h1 := sz_lt hx; have h2 := sz_lt hy
  refine sz_of ?_
  rw [pw_succ]; have := pw_pos k; omega
theorem Sz.mul {k m : Nat} {x y : Int} (hx : Sz k x) (hy : Sz m y) : Sz (k + m) (x * y) := by
  have h1 := sz_lt hx; have h2 := sz_lt hy
  refine sz_of ?_
  rw [Int.natAbs_mul, show pw (k + m) = pw k * pw m from Int.pow_add _ _ _]
  have h3 := Int.mul_lt_mul_of_pos_right h1 (pw_pos m)
  have h4 : (x.natAbs : Int) * y.natAbs ≤ x.natAbs * pw m := Int.mul_le_mul_of_nonneg_left (by omega) (by omega)
  push_cast; omega
theorem wideNeg_sat (x : Int) : Sat cx.P cx.gl 108 [wd x] (.one (wd (-x))) := by
  have hs : -9223372036854775808 < x.sign ∧ x.sign ≤ 9223372036854775807 := by
    rcases Int.lt_trichotomy x 0 with h | h | h
    · rw [Int.sign_eq_neg_one_of_neg h]; omega
    · subst h; simp
    · rw [Int.sign_eq_one_of_pos h]; omega
  refine Sat_of_awp (fn := f108) cx_ok (by kernel_rfl) (by kernel_rfl) rfl (by kernel_rfl) (Nat.le_of_ble_eq_true rfl) ?_
  repeat ((first | refine oP rfl ?_ | refine rP rfl (fun _ z => z) ?_ | (refine kO 2 rfl ?_; refine rNeg rfl rfl (by omega) ?_) | (refine kO 3 rfl ?_; refine rLdb rfl rfl rfl rfl rfl rfl rfl ?_) | (refine kO 4 rfl ?_; refine rG (fun _ z => z) ?_) | refine oN ?_ | refine aS ?_ | refine aR ?_ | refine aT ?_); (try conv => whnf))
  unfold wd
  rw [Int.sign_neg, Int.natAbs_neg]; rfl
theorem sign_facts (x : Int) : (x.sign = 0 ↔ x = 0) ∧ (x.sign = 1 ↔ 0 < x) ∧ (x.sign = -1 ↔ x < 0) ∧ (x.sign = 0 ∨ x.sign = 1 ∨ x.sign = -1) := by
  rcases Int.lt_trichotomy x 0 with h | h | h
  · rw [Int.sign_eq_neg_one_of_neg h]; omega
  · subst h; simp
  · rw [Int.sign_eq_one_of_pos h]; omega
theorem cmpN_facts (x y : Nat) : (cmpN x y > 0 ↔ y < x) ∧ (cmpN x y = 0 ↔ x = y) := by
  unfold cmpN; (repeat' split) <;> omega
theorem wideAdd_sat {x y : Int} (hx : Sz 100000 x) (hy : Sz 100000 y) : Sat cx.P cx.gl 111 [wd x, wd y] (.one (wd (x + y))) := by
  have fx := sign_facts x
  have fy := sign_facts y
  have fc := cmpN_facts x.natAbs y.natAbs
  have wo : ∀ {s : Int} {l : List Int} {z : Int}, Dg l → l.length ≤ 4294967296 → (s = 1 ∨ s = -1) → s * dval l = z → Sat cx.P cx.gl 103 [I s, L l] (.one (wd z)) := fun hd hl hs hz => by
    rw [← hz]; exact wideOf_sat hl hd hs
  have hx' : (digs x.natAbs).length ≤ 100000 := hx
  have hy' : (digs y.natAbs).length ≤ 100000 := hy
  have nx : 0 < x.natAbs → digs x.natAbs ≠ [] := fun h e => by rw [digs_nil] at e; omega
  have a1 : 0 < x.natAbs → Sat cx.P cx.gl 117 [L (digs x.natAbs), L (digs y.natAbs)] (.own 1 (.ints (addL (digs x.natAbs) (digs y.natAbs) (addN (digs x.natAbs) (digs y.natAbs))))) := fun h => addDigits_sat (dg_digs _) (dg_digs _) ⟨by omega, by omega⟩ (nx h)
  have va := addN_end (dg_digs x.natAbs) (dg_digs y.natAbs)
  rw [dval_digs, dval_digs] at va
  have la : (addL (digs x.natAbs) (digs y.natAbs) (addN (digs x.natAbs) (digs y.natAbs))).length ≤ 4294967296 := by
    rw [addL_len]; unfold addN; split <;> omega
  have da := addL_dg (a := digs x.natAbs) (b := digs y.natAbs) (addN (digs x.natAbs) (digs y.natAbs))
  have c1 := cmpDigits_sat x.natAbs y.natAbs (by omega) (by omega)
  have s1 : y.natAbs ≤ x.natAbs → Sat cx.P cx.gl 116 [L (digs x.natAbs), L (digs y.natAbs)] (.one (L (digs (x.natAbs - y.natAbs)))) := fun h => by
    have := subDigits_sat (dg_digs x.natAbs) (dg_digs y.natAbs) ⟨by omega, digs_len_mono h⟩ (by rw [dval_digs, dval_digs]; omega)
    rwa [dval_digs, dval_digs, show ((x.natAbs : Int) - y.natAbs).toNat = x.natAbs - y.natAbs by omega] at this
  have s2 : x.natAbs ≤ y.natAbs → Sat cx.P cx.gl 116 [L (digs y.natAbs), L (digs x.natAbs)] (.one (L (digs (y.natAbs - x.natAbs)))) := fun h => by
    have := subDigits_sat (dg_digs y.natAbs) (dg_digs x.natAbs) ⟨by omega, digs_len_mono h⟩ (by rw [dval_digs, dval_digs]; omega)
    rwa [dval_digs, dval_digs, show ((y.natAbs : Int) - x.natAbs).toNat = y.natAbs - x.natAbs by omega] at this
  have l1 : (digs (x.natAbs - y.natAbs)).length ≤ 100000 := Nat.le_trans (digs_len_mono (Nat.sub_le _ _)) hx'
  have l2 : (digs (y.natAbs - x.natAbs)).length ≤ 100000 := Nat.le_trans (digs_len_mono (Nat.sub_le _ _)) hy'
  rcases Int.lt_trichotomy x 0 with h1 | h1 | h1
  · have ex : x.sign = -1 := by omega
    rcases Int.lt_trichotomy y 0 with h2 | h2 | h2
    · have ey : y.sign = -1 := by omega
      have w1 := wo da la (.inr rfl) (show -1 * dval _ = x + y by rw [va]; omega)
      have a1 := a1 (by omega)
      unfold wd
      rw [ex, ey]
      refine Sat_of_awp (fn := f111) cx_ok (by kernel_rfl) (by kernel_rfl) rfl (by kernel_rfl) (Nat.le_of_ble_eq_true rfl) ?_
      repeat ((first | refine oP rfl ?_ | refine rP rfl (fun _ z => z) ?_ | (refine kO 1 rfl ?_; refine rG (fun _ z => z) ?_) | (refine kO 3 rfl ?_; refine rLdb rfl rfl rfl rfl rfl rfl rfl ?_) | (refine kO 4 rfl ?_; refine rG (fun _ z => z) ?_) | (refine kO 7 rfl ?_; first | refine rG (fun _ z => ⟨_, a1, z⟩) ?_ | refine rG (fun _ z => ⟨_, w1, z⟩) ?_) | refine oN ?_ | refine aS ?_ | refine aR ?_ | refine aK ?_ | refine aT ?_ | refine aC rfl ?_ | refine bT ?_ | refine bF ?_ | refine dI (by kernel_rfl) ?_); (try conv => whnf))
      rfl
    · subst h2
      unfold wd
      rw [ex]
      simp only [Int.sign_zero, Int.natAbs_zero, digs_zero, Int.add_zero]
      refine Sat_of_awp (fn := f111) cx_ok (by kernel_rfl) (by kernel_rfl) rfl (by kernel_rfl) (Nat.le_of_ble_eq_true rfl) ?_
      repeat ((first | refine oP rfl ?_ | refine rP rfl (fun _ z => z) ?_ | (refine kO 1 rfl ?_; refine rG (fun _ z => z) ?_) | (refine kO 3 rfl ?_; first | refine rLdb rfl rfl rfl rfl rfl rfl rfl ?_ | refine rG (fun _ z => z) ?_) | (refine kO 4 rfl ?_; refine rG (fun _ z => z) ?_) | refine oN ?_ | refine aS ?_ | refine aR ?_ | refine aK ?_ | refine aT ?_ | refine aC rfl ?_ | refine bT ?_ | refine bF ?_); (try conv => whnf))
      rw [ex]; rfl
    · have ey : y.sign = 1 := by omega
      rcases Nat.lt_trichotomy x.natAbs y.natAbs with h3 | h3 | h3
      · have cc : cmpN x.natAbs y.natAbs = -1 := by unfold cmpN; rw [if_pos h3]
        rw [cc] at c1
        have s2 := s2 (by omega)
        have w1 := wo (dg_digs (y.natAbs - x.natAbs)) (by omega) (.inl rfl) (show 1 * dval _ = x + y by rw [dval_digs]; omega)
        unfold wd
        rw [ex, ey]
        refine Sat_of_awp (fn := f111) cx_ok (by kernel_rfl) (by kernel_rfl) rfl (by kernel_rfl) (Nat.le_of_ble_eq_true rfl) ?_
        repeat ((first | refine oP rfl ?_ | refine rP rfl (fun _ z => z) ?_ | (refine kO 1 rfl ?_; refine rG (fun _ z => z) ?_) | (refine kO 3 rfl ?_; refine rLdb rfl rfl rfl rfl rfl rfl rfl ?_) | (refine kO 4 rfl ?_; refine rG (fun _ z => z) ?_) | (refine kO 7 rfl ?_; first | refine rG (fun _ z => ⟨_, c1, z⟩) ?_ | refine rG (fun _ z => ⟨_, s2, z⟩) ?_ | refine rG (fun _ z => ⟨_, w1, z⟩) ?_) | refine oN ?_ | refine aS ?_ | refine aR ?_ | refine aK ?_ | refine aT ?_ | refine aC rfl ?_ | refine bF ?_ | refine dI (by kernel_rfl) ?_); (try conv => whnf))
        rfl
      · have cc : cmpN x.natAbs y.natAbs = 0 := by unfold cmpN; rw [if_neg (by omega), if_neg (by omega)]
        rw [cc] at c1
        have ez : x + y = 0 := by omega
        unfold wd
        rw [ex, ey, ez]
        simp only [Int.sign_zero, Int.natAbs_zero, digs_zero]
        refine Sat_of_awp (fn := f111) cx_ok (by kernel_rfl) (by kernel_rfl) rfl (by kernel_rfl) (Nat.le_of_ble_eq_true rfl) ?_
        repeat ((first | refine oP rfl ?_ | refine rP rfl (fun _ z => z) ?_ | (refine kO 1 rfl ?_; refine rG (fun _ z => z) ?_) | (refine kO 3 rfl ?_; refine rLdb rfl rfl rfl rfl rfl rfl rfl ?_) | (refine kO 4 rfl ?_; refine rG (fun _ z => z) ?_) | (refine kO 7 rfl ?_; refine rG (fun _ z => ⟨_, c1, z⟩) ?_) | refine oN ?_ | refine aS ?_ | refine aR ?_ | refine aK ?_ | refine aT ?_ | refine aC rfl ?_ | refine bT ?_ | refine bF ?_); (try conv => whnf))
        rfl
      · have cc : cmpN x.natAbs y.natAbs = 1 := by unfold cmpN; rw [if_neg (by omega), if_pos h3]
        rw [cc] at c1
        have s1 := s1 (by omega)
        have w1 := wo (dg_digs (x.natAbs - y.natAbs)) (by omega) (.inr rfl) (show -1 * dval _ = x + y by rw [dval_digs]; omega)
        unfold wd
        rw [ex, ey]
        refine Sat_of_awp (fn := f111) cx_ok (by kernel_rfl) (by kernel_rfl) rfl (by kernel_rfl) (Nat.le_of_ble_eq_true rfl) ?_
        repeat ((first | refine oP rfl ?_ | refine rP rfl (fun _ z => z) ?_ | (refine kO 1 rfl ?_; refine rG (fun _ z => z) ?_) | (refine kO 3 rfl ?_; refine rLdb rfl rfl rfl rfl rfl rfl rfl ?_) | (refine kO 4 rfl ?_; refine rG (fun _ z => z) ?_) | (refine kO 7 rfl ?_; first | refine rG (fun _ z => ⟨_, c1, z⟩) ?_ | refine rG (fun _ z => ⟨_, s1, z⟩) ?_ | refine rG (fun _ z => ⟨_, w1, z⟩) ?_) | refine oN ?_ | refine aS ?_ | refine aR ?_ | refine aK ?_ | refine aT ?_ | refine aC rfl ?_ | refine bT ?_ | refine bF ?_ | refine dI (by kernel_rfl) ?_); (try conv => whnf))
        rfl
  · subst h1
    simp only [Int.zero_add]
    unfold wd
    simp only [Int.sign_zero, Int.natAbs_zero, digs_zero]
    refine Sat_of_awp (fn := f111) cx_ok (by kernel_rfl) (by kernel_rfl) rfl (by kernel_rfl) (Nat.le_of_ble_eq_true rfl) ?_
    repeat ((first | refine oP rfl ?_ | refine rP rfl (fun _ z => z) ?_ | (refine kO 1 rfl ?_; refine rG (fun _ z => z) ?_) | (refine kO 3 rfl ?_; first | refine rLdb rfl rfl rfl rfl rfl rfl rfl ?_ | refine rG (fun _ z => z) ?_) | (refine kO 4 rfl ?_; refine rG (fun _ z => z) ?_) | refine oN ?_ | refine aS ?_ | refine aR ?_ | refine aT ?_ | refine aC rfl ?_ | refine bT ?_); (try conv => whnf))
    rfl
  · have ex : x.sign = 1 := by omega
    rcases Int.lt_trichotomy y 0 with h2 | h2 | h2
    · have ey : y.sign = -1 := by omega
      rcases Nat.lt_trichotomy x.natAbs y.natAbs with h3 | h3 | h3
      · have cc : cmpN x.natAbs y.natAbs = -1 := by unfold cmpN; rw [if_pos h3]
        rw [cc] at c1
        have s2 := s2 (by omega)
        have w1 := wo (dg_digs (y.natAbs - x.natAbs)) (by omega) (.inr rfl) (show -1 * dval _ = x + y by rw [dval_digs]; omega)
        unfold wd
        rw [ex, ey]
        refine Sat_of_awp (fn := f111) cx_ok (by kernel_rfl) (by kernel_rfl) rfl (by kernel_rfl) (Nat.le_of_ble_eq_true rfl) ?_
        repeat ((first | refine oP rfl ?_ | refine rP rfl (fun _ z => z) ?_ | (refine kO 1 rfl ?_; refine rG (fun _ z => z) ?_) | (refine kO 3 rfl ?_; refine rLdb rfl rfl rfl rfl rfl rfl rfl ?_) | (refine kO 4 rfl ?_; refine rG (fun _ z => z) ?_) | (refine kO 7 rfl ?_; first | refine rG (fun _ z => ⟨_, c1, z⟩) ?_ | refine rG (fun _ z => ⟨_, s2, z⟩) ?_ | refine rG (fun _ z => ⟨_, w1, z⟩) ?_) | refine oN ?_ | refine aS ?_ | refine aR ?_ | refine aK ?_ | refine aT ?_ | refine aC rfl ?_ | refine bF ?_ | refine dI (by kernel_rfl) ?_); (try conv => whnf))
        rfl
      · have cc : cmpN x.natAbs y.natAbs = 0 := by unfold cmpN; rw [if_neg (by omega), if_neg (by omega)]
        rw [cc] at c1
        have ez : x + y = 0 := by omega
        unfold wd
        rw [ex, ey, ez]
        simp only [Int.sign_zero, Int.natAbs_zero, digs_zero]
        refine Sat_of_awp (fn := f111) cx_ok (by kernel_rfl) (by kernel_rfl) rfl (by kernel_rfl) (Nat.le_of_ble_eq_true rfl) ?_
        repeat ((first | refine oP rfl ?_ | refine rP rfl (fun _ z => z) ?_ | (refine kO 1 rfl ?_; refine rG (fun _ z => z) ?_) | (refine kO 3 rfl ?_; refine rLdb rfl rfl rfl rfl rfl rfl rfl ?_) | (refine kO 4 rfl ?_; refine rG (fun _ z => z) ?_) | (refine kO 7 rfl ?_; refine rG (fun _ z => ⟨_, c1, z⟩) ?_) | refine oN ?_ | refine aS ?_ | refine aR ?_ | refine aK ?_ | refine aT ?_ | refine aC rfl ?_ | refine bT ?_ | refine bF ?_); (try conv => whnf))
        rfl
      · have cc : cmpN x.natAbs y.natAbs = 1 := by unfold cmpN; rw [if_neg (by omega), if_pos h3]
        rw [cc] at c1
        have s1 := s1 (by omega)
        have w1 := wo (dg_digs (x.natAbs - y.natAbs)) (by omega) (.inl rfl) (show 1 * dval _ = x + y by rw [dval_digs]; omega)
        unfold wd
        rw [ex, ey]
        refine Sat_of_awp (fn := f111) cx_ok (by kernel_rfl) (by kernel_rfl) rfl (by kernel_rfl) (Nat.le_of_ble_eq_true rfl) ?_
        repeat ((first | refine oP rfl ?_ | refine rP rfl (fun _ z => z) ?_ | (refine kO 1 rfl ?_; refine rG (fun _ z => z) ?_) | (refine kO 3 rfl ?_; refine rLdb rfl rfl rfl rfl rfl rfl rfl ?_) | (refine kO 4 rfl ?_; refine rG (fun _ z => z) ?_) | (refine kO 7 rfl ?_; first | refine rG (fun _ z => ⟨_, c1, z⟩) ?_ | refine rG (fun _ z => ⟨_, s1, z⟩) ?_ | refine rG (fun _ z => ⟨_, w1, z⟩) ?_) | refine oN ?_ | refine aS ?_ | refine aR ?_ | refine aK ?_ | refine aT ?_ | refine aC rfl ?_ | refine bT ?_ | refine bF ?_ | refine dI (by kernel_rfl) ?_); (try conv => whnf))
        rfl
    · subst h2
      unfold wd
      rw [ex]
      simp only [Int.sign_zero, Int.natAbs_zero, digs_zero, Int.add_zero]
      refine Sat_of_awp (fn := f111) cx_ok (by kernel_rfl) (by kernel_rfl) rfl (by kernel_rfl) (Nat.le_of_ble_eq_true rfl) ?_
      repeat ((first | refine oP rfl ?_ | refine rP rfl (fun _ z => z) ?_ | (refine kO 1 rfl ?_; refine rG (fun _ z => z) ?_) | (refine kO 3 rfl ?_; first | refine rLdb rfl rfl rfl rfl rfl rfl rfl ?_ | refine rG (fun _ z => z) ?_) | (refine kO 4 rfl ?_; refine rG (fun _ z => z) ?_) | refine oN ?_ | refine aS ?_ | refine aR ?_ | refine aK ?_ | refine aT ?_ | refine aC rfl ?_ | refine bT ?_ | refine bF ?_); (try conv => whnf))
      rw [ex]; rfl
    · have ey : y.sign = 1 := by omega
      have w1 := wo da la (.inl rfl) (show 1 * dval _ = x + y by rw [va]; omega)
      have a1 := a1 (by omega)
      unfold wd
      rw [ex, ey]
      refine Sat_of_awp (fn := f111) cx_ok (by kernel_rfl) (by kernel_rfl) rfl (by kernel_rfl) (Nat.le_of_ble_eq_true rfl) ?_
      repeat ((first | refine oP rfl ?_ | refine rP rfl (fun _ z => z) ?_ | (refine kO 1 rfl ?_; refine rG (fun _ z => z) ?_) | (refine kO 3 rfl ?_; refine rLdb rfl rfl rfl rfl rfl rfl rfl ?_) | (refine kO 4 rfl ?_; refine rG (fun _ z => z) ?_) | (refine kO 7 rfl ?_; first | refine rG (fun _ z => ⟨_, a1, z⟩) ?_ | refine rG (fun _ z => ⟨_, w1, z⟩) ?_) | refine oN ?_ | refine aS ?_ | refine aR ?_ | refine aK ?_ | refine aT ?_ | refine aC rfl ?_ | refine bT ?_ | refine bF ?_ | refine dI (by kernel_rfl) ?_); (try conv => whnf))
      rfl
end Go.Proofs.Tryz
