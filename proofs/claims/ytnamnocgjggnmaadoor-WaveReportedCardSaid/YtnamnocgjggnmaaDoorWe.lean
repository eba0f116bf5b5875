/- Parts of the proof, joined. -/
import Derived.Test.YtnamnocgjggnmaaDoorWa
import Derived.Test.YtnamnocgjggnmaaDoorD
namespace Go.Proofs.Tryd
open Go.Fw Go.IntWalk Go.Plain
set_option maxRecDepth 100000
set_option maxHeartbeats 8000000
theorem trimmed_sat (l : List Int) (hl : l.length ≤ 4294967296) : Sat cx.P cx.gl 144 [L l] (.one (L (trim l))) := by
  refine Sat_of_awp (fn := f144) cx_ok (by kernel_rfl) (by kernel_rfl) rfl (by kernel_rfl) (Nat.le_of_ble_eq_true rfl) ?_
  repeat ((first | refine oP rfl ?_ | refine rP rfl (fun _ z => z) ?_ | (refine kO 6 rfl ?_; refine rLen rfl rfl rfl rfl rfl rfl ?_) | refine oN ?_ | refine aS ?_ | refine aR ?_ | refine aB ?_ | refine aL ?_); (try conv => whnf))
  refine loop_ind (ι := Nat) (fun n => n ≤ l.length ∧ trimN l n = trimN l l.length) (fun n => n) (fun n => ⟨[(0, vL l), (3, vI n)], [], 0⟩) l.length (canon_auto (by kernel_rfl)) ⟨Nat.le_refl _, rfl⟩ ?_
  rintro n ⟨hn, ht⟩
  cases n with
  | zero =>
    repeat ((first | refine oP rfl ?_ | refine rP rfl (fun _ z => z) ?_ | (refine kO 1 rfl ?_; refine rG (fun _ z => z) ?_) | (refine kO 8 rfl ?_; refine rSlH rfl rfl rfl rfl rfl rfl rfl (by omega) ?_) | refine oN ?_ | refine aS ?_ | refine aR ?_ | refine aX ?_ | refine aT ?_ | refine aC rfl ?_ | refine bF ?_ | refine oZ rfl rfl rfl ?_); (try conv => whnf))
    unfold trim; rw [← ht]; rfl
  | succ n =>
    have e1 : (((n + 1 : Nat) : Int) - 1).toNat = n := by omega
    rw [show trimN l (n + 1) = if l.getD n 0 = 0 then trimN l n else n + 1 from rfl] at ht
    repeat ((first | refine oP rfl ?_ | refine rP rfl (fun _ z => z) ?_ | (refine kO 1 rfl ?_; first | refine rSub rfl rfl rfl (by omega) ?_ | refine rG (fun _ z => z) ?_) | (refine kO 3 rfl ?_; refine rLdr rfl rfl rfl rfl rfl ?_) | (refine kO 5 rfl ?_; refine rIdx rfl rfl rfl rfl rfl rfl rfl (by omega) ?_) | refine oN ?_ | refine aS ?_ | refine aR ?_ | refine aC rfl ?_ | refine oY rfl rfl rfl ?_ | refine oIt rfl rfl rfl (by omega) ?_); (try conv => whnf))
    rw [e1]
    ((refine brp (fun h => ?_) (fun h => ?_)) <;> (try conv => whnf))
    · repeat ((first | refine oP rfl ?_ | refine rP rfl (fun _ z => z) ?_ | (refine kO 1 rfl ?_; refine rSub rfl rfl rfl (by omega) ?_) | refine oN ?_ | refine aR ?_ | refine aK ?_ | refine aB ?_); (try conv => whnf))
      rw [if_pos h] at ht
      exact ⟨n, ⟨by omega, ht⟩, by omega, canon_auto (by rw [show ((n + 1 : Nat) : Int) - 1 = (n : Int) by omega]; kernel_rfl)⟩
    · rw [if_neg h] at ht
      repeat ((first | refine oP rfl ?_ | refine rP rfl (fun _ z => z) ?_ | (refine kO 8 rfl ?_; refine rSlH rfl rfl rfl rfl rfl rfl rfl (by omega) ?_) | refine oN ?_ | refine aS ?_ | refine aR ?_ | refine aX ?_ | refine aT ?_); (try conv => whnf))
      unfold trim
      rw [← ht]; rfl
abbrev Wd (s : Int) (l : List Int) : SV := (true, [J s, .ints l])
theorem wideOf1_sat (s : Int) (l : List Int) (hl : l.length ≤ 4294967296) : Sat cx.P cx.gl 134 [I s, L l] (.one (Wd (if trim l = [] then 0 else s) (trim l))) := by
  have e : ((trim l).length : Int) = 0 ↔ trim l = [] := by rw [← List.length_eq_zero_iff]; omega
  refine Sat_of_awp (fn := f134) cx_ok (by kernel_rfl) (by kernel_rfl) rfl (by kernel_rfl) (Nat.le_of_ble_eq_true rfl) ?_
  repeat ((first | refine oP rfl ?_ | refine rP rfl (fun _ z => z) ?_ | (refine kO 1 rfl ?_; refine rG (fun _ z => z) ?_) | (refine kO 7 rfl ?_; refine rG (fun _ z => ⟨_, trimmed_sat l hl, z⟩) ?_) | (refine kO 6 rfl ?_; refine rLen rfl rfl rfl rfl rfl rfl ?_) | refine oN ?_ | refine aS ?_ | refine aR ?_ | refine aC rfl ?_); (try conv => whnf))
  ((refine brp (fun h => ?_) (fun h => ?_)) <;> (try conv => whnf))
  · repeat ((first | refine oP rfl ?_ | refine rP rfl (fun _ z => z) ?_ | (refine kO 4 rfl ?_; refine rG (fun _ z => z) ?_) | refine oN ?_ | refine aS ?_ | refine aR ?_ | refine aT ?_); (try conv => whnf))
    rw [if_pos (e.1 h)]; rfl
  · repeat ((first | refine oP rfl ?_ | refine rP rfl (fun _ z => z) ?_ | (refine kO 4 rfl ?_; refine rG (fun _ z => z) ?_) | refine oN ?_ | refine aS ?_ | refine aR ?_ | refine aK ?_ | refine aT ?_); (try conv => whnf))
    rw [if_neg (fun hh => h (e.2 hh))]; rfl
/-- A number of any size, as the references hold it. -/
abbrev wd (x : Int) : SV := Wd x.sign (digs x.natAbs)
theorem wideOf_sat {s : Int} {l : List Int} (hl : l.length ≤ 4294967296) (hd : Dg l) (hs : s = 1 ∨ s = -1) : Sat cx.P cx.gl 134 [I s, L l] (.one (wd (s * dval l))) := by
  have h := wideOf1_sat s l hl
  have h0 := dval_nonneg hd
  rw [trim_eq hd] at h
  have e1 : (s * dval l).natAbs = (dval l).toNat := by rcases hs with rfl | rfl <;> omega
  have e2 : (if digs (dval l).toNat = [] then 0 else s) = (s * dval l).sign := by
    by_cases hz : dval l = 0
    · rw [hz]; simp [digs_zero]
    · rw [if_neg (fun hh => by rw [digs_nil] at hh; omega)]
      rcases hs with rfl | rfl
      · rw [Int.one_mul, Int.sign_eq_one_of_pos (by omega)]
      · rw [Int.sign_eq_neg_one_of_neg (by omega)]
  unfold wd
  rw [e1, ← e2]; exact h
theorem WideOf_sat (n : Int) (h : -9223372036854775807 ≤ n ∧ n ≤ 9223372036854775807) : Sat cx.P cx.gl 116 [I n] (.one (wd n)) := by
  have key : ∀ (s x : Int), (s = 1 ∨ s = -1) → 0 ≤ x → s * x = n → x ≤ 9223372036854775807 →
      ∀ (l : List Int) (m : Nat), Dg l ∧ dval l + pw l.length * m = x → m = 0 → l.length ≤ 3 → Sat cx.P cx.gl 134 [I s, L l] (.one (wd n)) := by
    intro s x hs hx hsx hb l m ⟨hd, he⟩ hm hl
    subst hm
    have := wideOf_sat (s := s) (l := l) (by omega) hd hs
    rwa [show s * dval l = n by rw [← hsx, ← he]; simp] at this
  have grow : ∀ (x : Int) (l : List Int) (m : Nat), Dg l ∧ dval l + pw l.length * m = x → Dg (l ++ [(m : Int) % 1000000000]) ∧ dval (l ++ [(m : Int) % 1000000000]) + pw (l ++ [(m : Int) % 1000000000]).length * ((m / 1000000000 : Nat) : Int) = x := by
    intro x l m ⟨hd, he⟩
    refine ⟨fun y hy => ?_, ?_⟩
    · rcases List.mem_append.1 hy with hy | hy
      · exact hd y hy
      · simp at hy; subst hy; omega
    · rw [dval_snoc, List.length_append, List.length_singleton, pw_succ, ← he]
      have : (m : Int) = m % 1000000000 + 1000000000 * ((m / 1000000000 : Nat) : Int) := by omega
      conv => rhs; rw [this]
      rw [Int.mul_add, Int.mul_assoc]; omega
  by_cases hneg : n < 0
  · have hk := key (-1) (-n) (.inr rfl) (by omega) (by omega) (by omega)
    refine Sat_of_awp (fn := f116) cx_ok (by kernel_rfl) (by kernel_rfl) rfl (by kernel_rfl) (Nat.le_of_ble_eq_true rfl) ?_
    repeat ((first | refine oP rfl ?_ | refine rP rfl (fun _ z => z) ?_ | (refine kO 1 rfl ?_; refine rG (fun _ z => z) ?_) | (refine kO 2 rfl ?_; refine rNeg rfl rfl (by omega) ?_) | refine oN ?_ | refine aS ?_ | refine aR ?_ | refine aB ?_ | refine aC rfl ?_ | refine bPt (by omega) ?_ | refine aL ?_); (try conv => whnf))
    refine loop_round ?_
    repeat ((first | refine oP rfl ?_ | refine rP rfl (fun _ z => z) ?_ | (refine kO 1 rfl ?_; first | refine rQuo rfl rfl rfl (by omega) ?_ | refine rRem rfl rfl rfl (by omega) ?_ | refine rG (fun _ z => z) ?_) | refine oN ?_ | refine aS ?_ | refine aR ?_ | refine aK ?_ | refine aB ?_ | refine aC rfl ?_ | refine bPt (by omega) ?_ | refine rG (fun _ z => ⟨(by (rfl)), (by (((try unfold SC.len); (try unfold SC.uni); (try unfold LIM); (try simp); (try omega); done))), z⟩) ?_); (try conv => whnf))
    have g0 := grow (-n) [] (-n).toNat ⟨dg_nil, by simp [dval, pw]; omega⟩
    refine loop_ind (ι := List Int × Nat) (fun p => (Dg p.1 ∧ dval p.1 + pw p.1.length * p.2 = -n) ∧ p.1.length ≤ 3 ∧ (p.1.length ≤ 1 → p.2 ≤ 9223372036) ∧ (p.1.length = 2 → p.2 ≤ 9) ∧ (p.1.length = 3 → p.2 = 0) ∧ 1 ≤ p.1.length) (fun p => p.2) (fun p => ⟨[(0, vI p.2), (2, pP 0), (3, vI (-1)), (4, pO 1)], [(0, some (.box 130 [.st (J 0), .nil])), (1, some (.row true 1 (.ints p.1)))], 2⟩) ([-n % 1000000000], (-n).toNat / 1000000000)
      (canon_auto (by rw [show (((-n).toNat / 1000000000 : Nat) : Int) = -n / 1000000000 by omega]; kernel_rfl)) ⟨by rw [show ((-n).toNat : Int) = -n by omega] at g0; exact g0, by simp, by simp; omega, by simp, by simp, by simp⟩ ?_
    rintro ⟨l, m⟩ ⟨h1, h2, h3, h4, h5, h6⟩
    simp only at h1 h2 h3 h4 h5 h6
    repeat ((first | refine oP rfl ?_ | refine rP rfl (fun _ z => z) ?_ | (refine kO 1 rfl ?_; refine rG (fun _ z => z) ?_) | refine oN ?_ | refine aS ?_ | refine aR ?_ | refine aC rfl ?_); (try conv => whnf))
    ((refine brp (fun h => ?_) (fun h => ?_)) <;> (try conv => whnf))
    · have g := grow (-n) l m h1
      repeat ((first | refine oP rfl ?_ | refine rP rfl (fun _ z => z) ?_ | (refine kO 1 rfl ?_; first | refine rQuo rfl rfl rfl (by omega) ?_ | refine rRem rfl rfl rfl (by omega) ?_) | refine oN ?_ | refine aS ?_ | refine aR ?_ | refine aK ?_ | refine aB ?_ | refine rG (fun _ z => ⟨(by (rfl)), (by (((try unfold SC.len); (try unfold SC.uni); (try unfold LIM); (try simp); (try omega); done))), z⟩) ?_); (try conv => whnf))
      exact ⟨(l ++ [(m : Int) % 1000000000], m / 1000000000), ⟨g, by simp; omega, by simp; omega, by simp; omega, by simp; omega, by simp⟩, by simp only; omega, canon_auto (by rw [show ((m / 1000000000 : Nat) : Int) = (m : Int) / 1000000000 by omega]; kernel_rfl)⟩
    · repeat ((first | refine oP rfl ?_ | refine rP rfl (fun _ z => z) ?_ | (refine kO 4 rfl ?_; refine rG (fun _ z => z) ?_) | (refine kO 7 rfl ?_; refine rG (fun _ z => ⟨_, hk l m h1 (by omega) h2, z⟩) ?_) | refine oN ?_ | refine aS ?_ | refine aR ?_ | refine aX ?_ | refine aT ?_); (try conv => whnf))
      rfl
  · have hk := key 1 n (.inl rfl) (by omega) (by omega) (by omega)
    by_cases hz : n = 0
    · subst hz
      have hk := hk [] 0 ⟨dg_nil, by simp [dval]⟩ rfl (by simp)
      refine Sat_of_awp (fn := f116) cx_ok (by kernel_rfl) (by kernel_rfl) rfl (by kernel_rfl) (Nat.le_of_ble_eq_true rfl) ?_
      repeat ((first | refine oP rfl ?_ | refine rP rfl (fun _ z => z) ?_ | (refine kO 1 rfl ?_; refine rG (fun _ z => z) ?_) | refine oN ?_ | refine aS ?_ | refine aR ?_ | refine aK ?_ | refine aB ?_ | refine aC rfl ?_ | refine bF ?_ | refine aL ?_); (try conv => whnf))
      refine loop_round ?_
      repeat ((first | refine oP rfl ?_ | refine rP rfl (fun _ z => z) ?_ | (refine kO 1 rfl ?_; refine rG (fun _ z => z) ?_) | (refine kO 4 rfl ?_; refine rG (fun _ z => z) ?_) | (refine kO 7 rfl ?_; refine rG (fun _ z => ⟨_, hk, z⟩) ?_) | refine oN ?_ | refine aS ?_ | refine aR ?_ | refine aX ?_ | refine aT ?_ | refine aC rfl ?_ | refine bF ?_); (try conv => whnf))
      rfl
    · refine Sat_of_awp (fn := f116) cx_ok (by kernel_rfl) (by kernel_rfl) rfl (by kernel_rfl) (Nat.le_of_ble_eq_true rfl) ?_
      repeat ((first | refine oP rfl ?_ | refine rP rfl (fun _ z => z) ?_ | (refine kO 1 rfl ?_; refine rG (fun _ z => z) ?_) | refine oN ?_ | refine aS ?_ | refine aR ?_ | refine aK ?_ | refine aB ?_ | refine aC rfl ?_ | refine bPf (by omega) ?_ | refine aL ?_); (try conv => whnf))
      refine loop_round ?_
      repeat ((first | refine oP rfl ?_ | refine rP rfl (fun _ z => z) ?_ | (refine kO 1 rfl ?_; first | refine rQuo rfl rfl rfl (by omega) ?_ | refine rRem rfl rfl rfl (by omega) ?_ | refine rG (fun _ z => z) ?_) | refine oN ?_ | refine aS ?_ | refine aR ?_ | refine aK ?_ | refine aB ?_ | refine aC rfl ?_ | refine bPt (by omega) ?_ | refine rG (fun _ z => ⟨(by (rfl)), (by (((try unfold SC.len); (try unfold SC.uni); (try unfold LIM); (try simp); (try omega); done))), z⟩) ?_); (try conv => whnf))
      have g0 := grow n [] n.toNat ⟨dg_nil, by simp [dval, pw]; omega⟩
      refine loop_ind (ι := List Int × Nat) (fun p => (Dg p.1 ∧ dval p.1 + pw p.1.length * p.2 = n) ∧ p.1.length ≤ 3 ∧ (p.1.length ≤ 1 → p.2 ≤ 9223372036) ∧ (p.1.length = 2 → p.2 ≤ 9) ∧ (p.1.length = 3 → p.2 = 0) ∧ 1 ≤ p.1.length) (fun p => p.2) (fun p => ⟨[(0, vI p.2), (2, pP 0), (3, vI 1), (4, pO 1)], [(0, some (.box 130 [.st (J 0), .nil])), (1, some (.row true 1 (.ints p.1)))], 2⟩) ([n % 1000000000], n.toNat / 1000000000)
        (canon_auto (by rw [show ((n.toNat / 1000000000 : Nat) : Int) = n / 1000000000 by omega]; kernel_rfl)) ⟨by rw [show (n.toNat : Int) = n by omega] at g0; exact g0, by simp, by simp; omega, by simp, by simp, by simp⟩ ?_
      rintro ⟨l, m⟩ ⟨h1, h2, h3, h4, h5, h6⟩
      simp only at h1 h2 h3 h4 h5 h6
      repeat ((first | refine oP rfl ?_ | refine rP rfl (fun _ z => z) ?_ | (refine kO 1 rfl ?_; refine rG (fun _ z => z) ?_) | refine oN ?_ | refine aS ?_ | refine aR ?_ | refine aC rfl ?_); (try conv => whnf))
      ((refine brp (fun h => ?_) (fun h => ?_)) <;> (try conv => whnf))
      · have g := grow n l m h1
        repeat ((first | refine oP rfl ?_ | refine rP rfl (fun _ z => z) ?_ | (refine kO 1 rfl ?_; first | refine rQuo rfl rfl rfl (by omega) ?_ | refine rRem rfl rfl rfl (by omega) ?_) | refine oN ?_ | refine aS ?_ | refine aR ?_ | refine aK ?_ | refine aB ?_ | refine rG (fun _ z => ⟨(by (rfl)), (by (((try unfold SC.len); (try unfold SC.uni); (try unfold LIM); (try simp); (try omega); done))), z⟩) ?_); (try conv => whnf))
        exact ⟨(l ++ [(m : Int) % 1000000000], m / 1000000000), ⟨g, by simp; omega, by simp; omega, by simp; omega, by simp; omega, by simp⟩, by simp only; omega, canon_auto (by rw [show ((m / 1000000000 : Nat) : Int) = (m : Int) / 1000000000 by omega]; kernel_rfl)⟩
      · repeat ((first | refine oP rfl ?_ | refine rP rfl (fun _ z => z) ?_ | (refine kO 4 rfl ?_; refine rG (fun _ z => z) ?_) | (refine kO 7 rfl ?_; refine rG (fun _ z => ⟨_, hk l m h1 (by omega) h2, z⟩) ?_) | refine oN ?_ | refine aS ?_ | refine aR ?_ | refine aX ?_ | refine aT ?_); (try conv => whnf))
        rfl
end Go.Proofs.Tryd

namespace Go.Proofs.Tryd
open Go.Fw Go.IntWalk Go.Plain
set_option maxRecDepth 100000
set_option maxHeartbeats 8000000
theorem cmpDigits_sat (x y : Nat) (hx : (digs x).length ≤ 1000000) (_hy : (digs y).length ≤ 1000000) : Sat cx.P cx.gl 147 [L (digs x), L (digs y)] (.one (I (cmpN x y))) := by
  have cx' := canon_digs x
  have cy' := canon_digs y
  have vx := dval_digs x
  have vy := dval_digs y
  have l1 : (digs x).length < (digs y).length → x < y := fun h => by have := len_lt cx' cy' h; omega
  have l2 : (digs y).length < (digs x).length → y < x := fun h => by have := len_lt cy' cx' h; omega
  have t1 : ∀ i, (digs x).length = (digs y).length → i < (digs x).length → (digs x).drop (i + 1) = (digs y).drop (i + 1) → (digs x).getD i 0 < (digs y).getD i 0 → x < y := fun i a b c d => by have := top_lt cx'.1 cy'.1 a b c d; omega
  have t2 : ∀ i, (digs x).length = (digs y).length → i < (digs x).length → (digs x).drop (i + 1) = (digs y).drop (i + 1) → (digs y).getD i 0 < (digs x).getD i 0 → y < x := fun i a b c d => by have := top_lt cy'.1 cx'.1 a.symm (by omega) c.symm d; omega
  have t3 : digs x = digs y → x = y := fun h => by rw [h] at vx; omega
  generalize digs x = a at *
  generalize digs y = b at *
  clear vx vy cx' cy'
  unfold cmpN
  refine Sat_of_awp (fn := f147) cx_ok (by kernel_rfl) (by kernel_rfl) rfl (by kernel_rfl) (Nat.le_of_ble_eq_true rfl) ?_
  repeat ((first | refine oP rfl ?_ | refine rP rfl (fun _ z => z) ?_ | (refine kO 1 rfl ?_; refine rG (fun _ z => z) ?_) | (refine kO 6 rfl ?_; refine rLen rfl rfl rfl rfl rfl rfl ?_) | refine oN ?_ | refine aS ?_ | refine aR ?_ | refine aC rfl ?_); (try conv => whnf))
  ((refine brp (fun h => ?_) (fun h => ?_)) <;> (try conv => whnf))
  · repeat ((first | refine oP rfl ?_ | refine rP rfl (fun _ z => z) ?_ | (refine kO 1 rfl ?_; refine rG (fun _ z => z) ?_) | (refine kO 6 rfl ?_; refine rLen rfl rfl rfl rfl rfl rfl ?_) | refine oN ?_ | refine aS ?_ | refine aR ?_ | refine aC rfl ?_); (try conv => whnf))
    ((refine brp (fun h => ?_) (fun h => ?_)) <;> (try conv => whnf))
    · repeat ((first | refine oP rfl ?_ | refine rP rfl (fun _ z => z) ?_ | refine oN ?_ | refine aS ?_ | refine aR ?_ | refine aT ?_); (try conv => whnf))
      rw [if_pos (l1 (by omega))]
    · repeat ((first | refine oP rfl ?_ | refine rP rfl (fun _ z => z) ?_ | refine oN ?_ | refine aS ?_ | refine aR ?_ | refine aK ?_ | refine aT ?_); (try conv => whnf))
      have := l2 (by omega)
      rw [if_neg (by omega), if_pos this]
  · have hl : a.length = b.length := by omega
    repeat ((first | refine oP rfl ?_ | refine rP rfl (fun _ z => z) ?_ | (refine kO 1 rfl ?_; refine rSub rfl rfl rfl (by omega) ?_) | (refine kO 6 rfl ?_; refine rLen rfl rfl rfl rfl rfl rfl ?_) | refine oN ?_ | refine aS ?_ | refine aR ?_ | refine aK ?_ | refine aB ?_ | refine aL ?_); (try conv => whnf))
    refine loop_ind (ι := Nat) (fun m => m ≤ a.length ∧ a.drop m = b.drop m) (fun m => m) (fun m => ⟨[(0, vL a), (1, vL b), (5, vI ((m : Int) - 1))], [], 0⟩) a.length (canon_auto (by kernel_rfl)) ⟨Nat.le_refl _, by rw [List.drop_length, hl, List.drop_length]⟩ ?_
    rintro m ⟨hm, hd⟩
    cases m with
    | zero =>
      repeat ((first | refine oP rfl ?_ | refine rP rfl (fun _ z => z) ?_ | (refine kO 1 rfl ?_; refine rG (fun _ z => z) ?_) | refine oN ?_ | refine aS ?_ | refine aR ?_ | refine aX ?_ | refine aT ?_ | refine aC rfl ?_ | refine bF ?_); (try conv => whnf))
      have := t3 (by simpa using hd)
      subst this
      simp
    | succ m =>
      have e1 : (((m + 1 : Nat) : Int) - 1).toNat = m := by omega
      have e2 : ((m + 1 : Nat) : Int) - 1 = (m : Int) := by omega
      rw [e2]
      repeat ((first | refine oP rfl ?_ | refine rP rfl (fun _ z => z) ?_ | (refine kO 1 rfl ?_; refine rG (fun _ z => z) ?_) | (refine kO 3 rfl ?_; refine rLdr rfl rfl rfl rfl rfl ?_) | (refine kO 5 rfl ?_; refine rIdN rfl rfl rfl rfl rfl rfl rfl (by omega) ?_) | refine oN ?_ | refine aS ?_ | refine aR ?_ | refine aK ?_ | refine aB ?_ | refine aC rfl ?_ | refine bT ?_ | refine dI (by kernel_rfl) ?_); (try conv => whnf))
      ((refine brp (fun h => ?_) (fun h => ?_)) <;> (try conv => whnf))
      · repeat ((first | refine oP rfl ?_ | refine rP rfl (fun _ z => z) ?_ | refine oN ?_ | refine aS ?_ | refine aR ?_ | refine aT ?_); (try conv => whnf))
        rw [if_pos (t1 m hl (by omega) hd h)]
      · repeat ((first | refine oP rfl ?_ | refine rP rfl (fun _ z => z) ?_ | (refine kO 1 rfl ?_; refine rG (fun _ z => z) ?_) | (refine kO 3 rfl ?_; refine rLdr rfl rfl rfl rfl rfl ?_) | (refine kO 5 rfl ?_; refine rIdN rfl rfl rfl rfl rfl rfl rfl (by omega) ?_) | refine oN ?_ | refine aS ?_ | refine aR ?_ | refine aK ?_ | refine aC rfl ?_ | refine dI (by kernel_rfl) ?_); (try conv => whnf))
        ((refine brp (fun h => ?_) (fun h => ?_)) <;> (try conv => whnf))
        · repeat ((first | refine oP rfl ?_ | refine rP rfl (fun _ z => z) ?_ | refine oN ?_ | refine aS ?_ | refine aR ?_ | refine aT ?_); (try conv => whnf))
          have := t2 m hl (by omega) hd h
          rw [if_neg (by omega), if_pos this]
        · repeat ((first | refine oP rfl ?_ | refine rP rfl (fun _ z => z) ?_ | (refine kO 1 rfl ?_; refine rSub rfl rfl rfl (by omega) ?_) | refine oN ?_ | refine aR ?_ | refine aK ?_); (try conv => whnf))
          refine ⟨m, ⟨by omega, ?_⟩, by omega, canon_auto (by kernel_rfl)⟩
          rw [find_drop (d := 0) (show m < a.length by omega), find_drop (d := 0) (show m < b.length by omega), hd]
          congr 1
          omega
theorem digit_sat (l : List Int) (i : Nat) : Sat cx.P cx.gl 150 [L l, I i] (.one (I (l.getD i 0))) := by
  refine Sat_of_awp (fn := f150) cx_ok (by kernel_rfl) (by kernel_rfl) rfl (by kernel_rfl) (Nat.le_of_ble_eq_true rfl) ?_
  repeat ((first | refine oP rfl ?_ | refine rP rfl (fun _ z => z) ?_ | (refine kO 1 rfl ?_; refine rG (fun _ z => z) ?_) | (refine kO 6 rfl ?_; refine rLen rfl rfl rfl rfl rfl rfl ?_) | refine oN ?_ | refine aS ?_ | refine aR ?_ | refine aC rfl ?_); (try conv => whnf))
  ((refine brp (fun h => ?_) (fun h => ?_)) <;> (try conv => whnf))
  · repeat ((first | refine oP rfl ?_ | refine rP rfl (fun _ z => z) ?_ | (refine kO 3 rfl ?_; refine rLdr rfl rfl rfl rfl rfl ?_) | (refine kO 5 rfl ?_; refine rIdN rfl rfl rfl rfl rfl rfl rfl (by omega) ?_) | refine oN ?_ | refine aS ?_ | refine aR ?_ | refine aT ?_); (try conv => whnf))
  · repeat ((first | refine oP rfl ?_ | refine rP rfl (fun _ z => z) ?_ | refine oN ?_ | refine aS ?_ | refine aR ?_ | refine aK ?_ | refine aT ?_); (try conv => whnf))
    exact res_i (by simp [List.getD_eq_getElem?_getD, List.getElem?_eq_none (by omega : l.length ≤ i)])
theorem addDigits_sat {a b : List Int} (ha : Dg a) (hb : Dg b) (hl : a.length ≤ 1000000 ∧ b.length ≤ 1000000) (hne : a ≠ []) : Sat cx.P cx.gl 151 [L a, L b] (.own 1 (.ints (addL a b (addN a b)))) := by
  have hpos : 0 < a.length := List.length_pos_iff.2 hne
  have hN : addN a b ≤ 1000001 := by unfold addN; split <;> omega
  have hN1 : 1 ≤ addN a b := by unfold addN; omega
  have dig := digit_sat
  refine Sat_of_awp (fn := f151) cx_ok (by kernel_rfl) (by kernel_rfl) rfl (by kernel_rfl) (Nat.le_of_ble_eq_true rfl) ?_
  repeat ((first | refine oP rfl ?_ | refine rP rfl (fun _ z => z) ?_ | refine oN ?_ | refine aS ?_ | refine aR ?_ | refine aB ?_ | refine aL ?_); (try conv => whnf))
  refine loop_round ?_
  have d0 := dig a 0
  have d0' := dig b 0
  have d1 := ha.get 0
  have d2 := hb.get 0
  repeat ((first | refine oP rfl ?_ | refine rP rfl (fun _ z => z) ?_ | (refine kO 1 rfl ?_; first | refine rAdd rfl rfl rfl (by omega) ?_ | refine rQuo rfl rfl rfl (by omega) ?_ | refine rRem rfl rfl rfl (by omega) ?_ | refine rG (fun _ z => z) ?_) | (refine kO 7 rfl ?_; first | refine rG (fun _ z => ⟨_, d0, z⟩) ?_ | refine rG (fun _ z => ⟨_, d0', z⟩) ?_) | (refine kO 6 rfl ?_; refine rLen rfl rfl rfl rfl rfl rfl ?_) | refine oN ?_ | refine aS ?_ | refine aR ?_ | refine aK ?_ | refine aB ?_ | refine aC rfl ?_ | refine bT ?_ | refine oZ rfl rfl rfl ?_ | refine oUt rfl rfl rfl (by omega) ?_ | refine rG (fun _ z => ⟨(by (rfl)), (by (((try unfold SC.len); (try unfold SC.uni); (try unfold LIM); (try simp); (try omega); done))), z⟩) ?_); (try conv => whnf))
  refine loop_ind (ι := Nat) (fun i => 1 ≤ i ∧ i ≤ addN a b) (fun i => addN a b - i) (fun i => ⟨[(0, vL a), (1, vL b), (5, pO 0), (6, vI (addC a b i)), (7, vI i)], [(0, some (.row true 1 (.ints (addL a b i))))], 1⟩) 1 (canon_auto (by kernel_rfl)) ⟨Nat.le_refl _, hN1⟩ ?_
  clear d0 d0' d1 d2
  rintro i ⟨hi0, hi⟩
  have hc := addN_cond ha hb hi
  have d0 := dig a i
  have d0' := dig b i
  have d1 := ha.get i
  have d2 := hb.get i
  have d3 := addC_bound ha hb i
  have d4 := addL_len a b i
  have d5 := addL_succ a b i
  by_cases hlt : i < addN a b
  · have hc' := hc.2 hlt
    repeat' ((first | refine oP rfl ?_ | refine rP rfl (fun _ z => z) ?_ | (refine kO 1 rfl ?_; first | refine rAdd rfl rfl rfl (by omega) ?_ | refine rQuo rfl rfl rfl (by omega) ?_ | refine rRem rfl rfl rfl (by omega) ?_ | refine rG (fun _ z => z) ?_) | (refine kO 7 rfl ?_; first | refine rG (fun _ z => ⟨_, d0, z⟩) ?_ | refine rG (fun _ z => ⟨_, d0', z⟩) ?_) | (refine kO 6 rfl ?_; refine rLen rfl rfl rfl rfl rfl rfl ?_) | refine oN ?_ | refine aS ?_ | refine aR ?_ | refine aK ?_ | refine aB ?_ | refine aC rfl ?_ | refine bT ?_ | refine bPt (by omega) ?_ | refine oY rfl rfl rfl ?_ | refine oZ rfl rfl rfl ?_ | refine rG (fun _ z => ⟨(by (rfl)), (by (exact lnS (by omega))), z⟩) ?_ | refine opsA_unlessp rfl rfl rfl (fun h => ?_) (fun h => ?_)) <;> (try conv => whnf))
    all_goals exact ⟨i + 1, ⟨by omega, hlt⟩, by omega, canon_auto (by rw [d5]; kernel_rfl)⟩
  · have hc' : ¬ (i < a.length ∨ i < b.length ∨ addC a b i > 0) := fun h => hlt (hc.1 h)
    repeat ((first | refine oP rfl ?_ | refine rP rfl (fun _ z => z) ?_ | (refine kO 1 rfl ?_; refine rG (fun _ z => z) ?_) | (refine kO 6 rfl ?_; refine rLen rfl rfl rfl rfl rfl rfl ?_) | refine oN ?_ | refine aS ?_ | refine aR ?_ | refine aX ?_ | refine aT ?_ | refine aC rfl ?_ | refine bPf (by omega) ?_ | refine oY rfl rfl rfl ?_ | refine oUf rfl rfl rfl (by omega) ?_); (try conv => whnf))
    rw [show i = addN a b by omega]
theorem subDigits_sat {a b : List Int} (ha : Dg a) (hb : Dg b) (hl : a.length ≤ 1000000 ∧ b.length ≤ a.length) (hle : dval b ≤ dval a) : Sat cx.P cx.gl 148 [L a, L b] (.one (L (digs (dval a - dval b).toNat))) := by
  have hd := sbL_dg ha hb a.length
  have he := sbL_end ha hb hl.2 hle
  have dig := digit_sat
  have ht := trimmed_sat (sbL a b a.length) (by rw [sbL_len]; omega)
  rw [trim_eq hd, he] at ht
  by_cases hne : a.length = 0
  · have e1 : sbL a b a.length = [] := by rw [hne]; rfl
    rw [e1] at ht
    refine Sat_of_awp (fn := f148) cx_ok (by kernel_rfl) (by kernel_rfl) rfl (by kernel_rfl) (Nat.le_of_ble_eq_true rfl) ?_
    repeat ((first | refine oP rfl ?_ | refine rP rfl (fun _ z => z) ?_ | refine oN ?_ | refine aS ?_ | refine aR ?_ | refine aB ?_ | refine aL ?_); (try conv => whnf))
    refine loop_round ?_
    repeat ((first | refine oP rfl ?_ | refine rP rfl (fun _ z => z) ?_ | (refine kO 1 rfl ?_; refine rG (fun _ z => z) ?_) | (refine kO 7 rfl ?_; refine rG (fun _ z => ⟨_, ht, z⟩) ?_) | (refine kO 6 rfl ?_; refine rLen rfl rfl rfl rfl rfl rfl ?_) | refine oN ?_ | refine aS ?_ | refine aR ?_ | refine aX ?_ | refine aT ?_ | refine aC rfl ?_ | refine bPf (by omega) ?_); (try conv => whnf))
    rfl
  · refine Sat_of_awp (fn := f148) cx_ok (by kernel_rfl) (by kernel_rfl) rfl (by kernel_rfl) (Nat.le_of_ble_eq_true rfl) ?_
    repeat ((first | refine oP rfl ?_ | refine rP rfl (fun _ z => z) ?_ | refine oN ?_ | refine aS ?_ | refine aR ?_ | refine aB ?_ | refine aL ?_); (try conv => whnf))
    refine loop_round ?_
    have d0' := dig b 0
    have d1 := ha.get 0
    have d2 := hb.get 0
    repeat ((first | refine oP rfl ?_ | refine rP rfl (fun _ z => z) ?_ | (refine kO 1 rfl ?_; first | refine rSub rfl rfl rfl (by omega) ?_ | refine rG (fun _ z => z) ?_) | (refine kO 3 rfl ?_; refine rLdr rfl rfl rfl rfl rfl ?_) | (refine kO 5 rfl ?_; refine rIdN rfl rfl rfl rfl rfl rfl rfl (by omega) ?_) | (refine kO 7 rfl ?_; refine rG (fun _ z => ⟨_, d0', z⟩) ?_) | (refine kO 6 rfl ?_; refine rLen rfl rfl rfl rfl rfl rfl ?_) | refine oN ?_ | refine aS ?_ | refine aR ?_ | refine aK ?_ | refine aB ?_ | refine aC rfl ?_ | refine bPt (by omega) ?_ | refine dI (by kernel_rfl) ?_); (try conv => whnf))
    have g5 : sbL a b 1 = [sbD a b 0] := rfl
    ((refine brp (fun h => ?_) (fun h => ?_)) <;> (try conv => whnf))
    · have e1 : sbB a b 1 = 1 := if_pos h
      have e2 : sbD a b 0 = a.getD 0 0 - b.getD 0 0 - 0 + 1000000000 := if_pos h
      repeat ((first | refine oP rfl ?_ | refine rP rfl (fun _ z => z) ?_ | (refine kO 1 rfl ?_; refine rAdd rfl rfl rfl (by omega) ?_) | refine oN ?_ | refine aR ?_ | refine rG (fun _ z => ⟨(by (rfl)), (by (((try unfold SC.len); (try unfold SC.uni); (try unfold LIM); (try simp); (try omega); done))), z⟩) ?_); (try conv => whnf))
      refine loop_ind (ι := Nat) (fun i => 1 ≤ i ∧ i ≤ a.length) (fun i => a.length - i) (fun i => ⟨[(0, vL a), (1, vL b), (5, pO 0), (6, vI (sbB a b i)), (7, vI i)], [(0, some (.row true 1 (.ints (sbL a b i))))], 1⟩) 1 (canon_auto (by rw [g5, e1, e2]; kernel_rfl)) ⟨Nat.le_refl _, by omega⟩ ?_
      clear d0' d1 d2 h e1 e2
      rintro i ⟨hi0, hi⟩
      have d0' := dig b i
      have d1 := ha.get i
      have d2 := hb.get i
      have d3 := sbB_bound a b i
      have d4 := sbL_len a b i
      have d5 := sbL_succ a b i
      repeat ((first | refine oP rfl ?_ | refine rP rfl (fun _ z => z) ?_ | (refine kO 1 rfl ?_; refine rG (fun _ z => z) ?_) | (refine kO 6 rfl ?_; refine rLen rfl rfl rfl rfl rfl rfl ?_) | refine oN ?_ | refine aS ?_ | refine aR ?_ | refine aC rfl ?_); (try conv => whnf))
      ((refine brp (fun h => ?_) (fun h => ?_)) <;> (try conv => whnf))
      · have hlt : i < a.length := by omega
        repeat ((first | refine oP rfl ?_ | refine rP rfl (fun _ z => z) ?_ | (refine kO 1 rfl ?_; first | refine rSub rfl rfl rfl (by omega) ?_ | refine rG (fun _ z => z) ?_) | (refine kO 3 rfl ?_; refine rLdr rfl rfl rfl rfl rfl ?_) | (refine kO 5 rfl ?_; refine rIdN rfl rfl rfl rfl rfl rfl rfl (by omega) ?_) | (refine kO 7 rfl ?_; refine rG (fun _ z => ⟨_, d0', z⟩) ?_) | refine oN ?_ | refine aS ?_ | refine aR ?_ | refine aK ?_ | refine aB ?_ | refine aC rfl ?_ | refine dI (by kernel_rfl) ?_); (try conv => whnf))
        ((refine brp (fun h => ?_) (fun h => ?_)) <;> (try conv => whnf))
        · have f1 : sbB a b (i + 1) = 1 := if_pos h
          have f2 : sbD a b i = a.getD i 0 - b.getD i 0 - sbB a b i + 1000000000 := if_pos h
          repeat ((first | refine oP rfl ?_ | refine rP rfl (fun _ z => z) ?_ | (refine kO 1 rfl ?_; refine rAdd rfl rfl rfl (by omega) ?_) | refine oN ?_ | refine aR ?_ | refine rG (fun _ z => ⟨(by (rfl)), (by (exact lnS (by omega))), z⟩) ?_); (try conv => whnf))
          exact ⟨i + 1, ⟨by omega, hlt⟩, by omega, canon_auto (by rw [d5, f1, f2]; kernel_rfl)⟩
        · have f1 : sbB a b (i + 1) = 0 := if_neg h
          have f2 : sbD a b i = a.getD i 0 - b.getD i 0 - sbB a b i := if_neg h
          repeat ((first | refine oP rfl ?_ | refine rP rfl (fun _ z => z) ?_ | (refine kO 1 rfl ?_; refine rAdd rfl rfl rfl (by omega) ?_) | refine oN ?_ | refine aR ?_ | refine aK ?_ | refine rG (fun _ z => ⟨(by (rfl)), (by (exact lnS (by omega))), z⟩) ?_); (try conv => whnf))
          exact ⟨i + 1, ⟨by omega, hlt⟩, by omega, canon_auto (by rw [d5, f1, f2]; kernel_rfl)⟩
      · obtain rfl : i = a.length := by omega
        repeat ((first | refine oP rfl ?_ | refine rP rfl (fun _ z => z) ?_ | (refine kO 7 rfl ?_; refine rG (fun _ z => ⟨_, ht, z⟩) ?_) | refine oN ?_ | refine aS ?_ | refine aR ?_ | refine aX ?_ | refine aT ?_); (try conv => whnf))
        rfl
    · have e1 : sbB a b 1 = 0 := if_neg h
      have e2 : sbD a b 0 = a.getD 0 0 - b.getD 0 0 - 0 := if_neg h
      repeat ((first | refine oP rfl ?_ | refine rP rfl (fun _ z => z) ?_ | (refine kO 1 rfl ?_; refine rAdd rfl rfl rfl (by omega) ?_) | refine oN ?_ | refine aR ?_ | refine aK ?_ | refine rG (fun _ z => ⟨(by (rfl)), (by (((try unfold SC.len); (try unfold SC.uni); (try unfold LIM); (try simp); (try omega); done))), z⟩) ?_); (try conv => whnf))
      refine loop_ind (ι := Nat) (fun i => 1 ≤ i ∧ i ≤ a.length) (fun i => a.length - i) (fun i => ⟨[(0, vL a), (1, vL b), (5, pO 0), (6, vI (sbB a b i)), (7, vI i)], [(0, some (.row true 1 (.ints (sbL a b i))))], 1⟩) 1 (canon_auto (by rw [g5, e1, e2]; kernel_rfl)) ⟨Nat.le_refl _, by omega⟩ ?_
      clear d0' d1 d2 h e1 e2
      rintro i ⟨hi0, hi⟩
      have d0' := dig b i
      have d1 := ha.get i
      have d2 := hb.get i
      have d3 := sbB_bound a b i
      have d4 := sbL_len a b i
      have d5 := sbL_succ a b i
      repeat ((first | refine oP rfl ?_ | refine rP rfl (fun _ z => z) ?_ | (refine kO 1 rfl ?_; refine rG (fun _ z => z) ?_) | (refine kO 6 rfl ?_; refine rLen rfl rfl rfl rfl rfl rfl ?_) | refine oN ?_ | refine aS ?_ | refine aR ?_ | refine aC rfl ?_); (try conv => whnf))
      ((refine brp (fun h => ?_) (fun h => ?_)) <;> (try conv => whnf))
      · have hlt : i < a.length := by omega
        repeat ((first | refine oP rfl ?_ | refine rP rfl (fun _ z => z) ?_ | (refine kO 1 rfl ?_; first | refine rSub rfl rfl rfl (by omega) ?_ | refine rG (fun _ z => z) ?_) | (refine kO 3 rfl ?_; refine rLdr rfl rfl rfl rfl rfl ?_) | (refine kO 5 rfl ?_; refine rIdN rfl rfl rfl rfl rfl rfl rfl (by omega) ?_) | (refine kO 7 rfl ?_; refine rG (fun _ z => ⟨_, d0', z⟩) ?_) | refine oN ?_ | refine aS ?_ | refine aR ?_ | refine aK ?_ | refine aB ?_ | refine aC rfl ?_ | refine dI (by kernel_rfl) ?_); (try conv => whnf))
        ((refine brp (fun h => ?_) (fun h => ?_)) <;> (try conv => whnf))
        · have f1 : sbB a b (i + 1) = 1 := if_pos h
          have f2 : sbD a b i = a.getD i 0 - b.getD i 0 - sbB a b i + 1000000000 := if_pos h
          repeat ((first | refine oP rfl ?_ | refine rP rfl (fun _ z => z) ?_ | (refine kO 1 rfl ?_; refine rAdd rfl rfl rfl (by omega) ?_) | refine oN ?_ | refine aR ?_ | refine rG (fun _ z => ⟨(by (rfl)), (by (exact lnS (by omega))), z⟩) ?_); (try conv => whnf))
          exact ⟨i + 1, ⟨by omega, hlt⟩, by omega, canon_auto (by rw [d5, f1, f2]; kernel_rfl)⟩
        · have f1 : sbB a b (i + 1) = 0 := if_neg h
          have f2 : sbD a b i = a.getD i 0 - b.getD i 0 - sbB a b i := if_neg h
          repeat ((first | refine oP rfl ?_ | refine rP rfl (fun _ z => z) ?_ | (refine kO 1 rfl ?_; refine rAdd rfl rfl rfl (by omega) ?_) | refine oN ?_ | refine aR ?_ | refine aK ?_ | refine rG (fun _ z => ⟨(by (rfl)), (by (exact lnS (by omega))), z⟩) ?_); (try conv => whnf))
          exact ⟨i + 1, ⟨by omega, hlt⟩, by omega, canon_auto (by rw [d5, f1, f2]; kernel_rfl)⟩
      · obtain rfl : i = a.length := by omega
        repeat ((first | refine oP rfl ?_ | refine rP rfl (fun _ z => z) ?_ | (refine kO 7 rfl ?_; refine rG (fun _ z => ⟨_, ht, z⟩) ?_) | refine oN ?_ | refine aS ?_ | refine aR ?_ | refine aX ?_ | refine aT ?_); (try conv => whnf))
        rfl
end Go.Proofs.Tryd
