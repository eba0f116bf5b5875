/- Parts of the proof, joined. -/
import Derived.Test.YtnamnocgjggnmaaDoorVa
import Derived.Test.YtnamnocgjggnmaaDoorCx
import Derived.Test.YtnamnocgjggnmaaDoorFb
import Derived.Test.YtnamnocgjggnmaaDoorRows
import Derived.LaidMore
import Derived.LaidSub
import Derived.Stop.Joined
import Derived.Test.YtnamnocgjggnmaaDoorTie
import Derived.Test.YtnamnocgjggnmaaDoorCards
namespace Go.Proofs.Tryd
open Go.Fw Go.IntWalk Go.Plain
set_option maxRecDepth 100000
set_option maxHeartbeats 8000000
theorem awake8_sat : Sat cx.P cx.gl 15 [] (.one (Bo true)) := fnE_ok cx_ok (L := 300) 40 _ _ _ (by kernel_rfl)
/-- The error of a loss. -/
abbrev lossOK (a r lo hi : Int) : Prop := (0 ≤ a ∧ a ≤ 1000000000) ∧ (-1000000000 ≤ r ∧ r ≤ 1000000000) ∧ (-100000 ≤ lo ∧ lo ≤ 100000) ∧ -100000 ≤ hi ∧ hi ≤ 100000
def lossErr (a r lo hi : Int) : Int := if lossOK a r lo hi then (if lo ≤ hi then 0 else 9) else 2
def mnI (a b : Int) : Int := if b < a then b else a
def mxI (a b : Int) : Int := if b > a then b else a
theorem mnI_or (a b : Int) : mnI a b = a ∨ mnI a b = b := by unfold mnI; split <;> simp
theorem mxI_or (a b : Int) : mxI a b = a ∨ mxI a b = b := by unfold mxI; split <;> simp
def lossLo (a r lo hi : Int) : Int := mnI (a * 1000000 - r * lo) (a * 1000000 - r * hi) / 1000000
def lossHi (a r lo hi : Int) : Int := -(-mxI (a * 1000000 - r * lo) (a * 1000000 - r * hi) / 1000000)
theorem mulS {x y A B : Int} (hx : -A ≤ x ∧ x ≤ A) (hy : -B ≤ y ∧ y ≤ B) (hA : 0 ≤ A) : -(A * B) ≤ x * y ∧ x * y ≤ A * B := by
  have h : (x * y).natAbs ≤ A.natAbs * B.natAbs := by
    rw [Int.natAbs_mul]; exact Nat.mul_le_mul (by omega) (by omega)
  rw [← Int.natAbs_mul] at h
  have h2 : 0 ≤ A * B := Int.mul_nonneg hA (by omega)
  omega
theorem loss_mid {a r lo hi : Int} (h : lossOK a r lo hi) : (-100000000000000 ≤ r * lo ∧ r * lo ≤ 100000000000000) ∧ (-100000000000000 ≤ r * hi ∧ r * hi ≤ 100000000000000) := by
  obtain ⟨h1, h2, h3, h4⟩ := h
  exact ⟨mulS (A := 1000000000) (B := 100000) h2 h3 (by omega), mulS (A := 1000000000) (B := 100000) h2 h4 (by omega)⟩
theorem lossOf_sat (a r lo hi : Int) : Sat cx.P cx.gl 38 [I a, I r, F2 lo hi] (.tup (if lossErr a r lo hi = 0 then [F2 (lossLo a r lo hi) (lossHi a r lo hi), I 0] else [F2 0 0, I (lossErr a r lo hi)])) := by
  unfold lossErr
  by_cases h : lossOK a r lo hi
  · rw [if_pos h]
    by_cases hle : lo ≤ hi
    · rw [if_pos hle, if_pos rfl]
      obtain ⟨m1, m2⟩ := loss_mid h
      have o1 := mnI_or (a * 1000000 - r * lo) (a * 1000000 - r * hi)
      have o2 := mxI_or (a * 1000000 - r * lo) (a * 1000000 - r * hi)
      have g := around8_sat (mnI (a * 1000000 - r * lo) (a * 1000000 - r * hi)) 1000000 (mxI (a * 1000000 - r * lo) (a * 1000000 - r * hi)) 1000000 (by omega) (by omega) (by omega) (by omega)
      unfold mnI mxI at g
      unfold lossLo lossHi mnI mxI
      refine Sat_of_awp (fn := f38) cx_ok (by kernel_rfl) (by kernel_rfl) rfl (by kernel_rfl) (Nat.le_of_ble_eq_true rfl) ?_
      repeat ((first | refine oP rfl ?_ | refine rP rfl (fun _ z => z) ?_ | (refine kO 1 rfl ?_; first | refine rAdd rfl rfl rfl (by omega) ?_ | refine rSub rfl rfl rfl (by omega) ?_ | refine rMul rfl rfl rfl (by omega) ?_ | refine rQuo rfl rfl rfl (by omega) ?_ | refine rRem rfl rfl rfl (by omega) ?_ | refine rQuo' rfl rfl rfl (by omega) ?_ | refine rRem' rfl rfl rfl (by omega) ?_ | refine rG (fun _ z => z) ?_) | (refine kO 2 rfl ?_; first | refine rNeg rfl rfl (by omega) ?_ | refine rG (fun _ z => z) ?_) | (refine kO 3 rfl ?_; first | refine rLdr rfl rfl rfl rfl rfl ?_ | refine rLdb rfl rfl rfl rfl rfl rfl rfl ?_ | refine rLdi rfl rfl rfl rfl rfl rfl (by first | omega | decide | (dsimp only [SC.len]; omega) | (simp; done) | (simp; omega)) ?_ | refine rG (fun _ z => z) ?_) | (refine kO 4 rfl ?_; first | refine rSti rfl rfl rfl rfl rfl rfl (by first | omega | decide | (dsimp only [SC.len]; omega) | (simp; done) | (simp; omega)) ?_ | refine rG (fun _ z => z) ?_) | (refine kO 5 rfl ?_; first | refine rIdN rfl rfl rfl rfl rfl rfl rfl (by first | omega | decide | (dsimp only [SC.len]; omega) | (simp; done) | (simp; omega)) ?_ | refine rIdx rfl rfl rfl rfl rfl rfl rfl (by first | omega | decide | (dsimp only [SC.len]; omega) | (simp; done) | (simp; omega)) ?_ | refine rIdoN rfl rfl rfl rfl rfl rfl rfl rfl (by first | omega | decide | (dsimp only [SC.len]; omega) | (simp; done) | (simp; omega)) ?_ | refine rIdo rfl rfl rfl rfl rfl rfl rfl rfl (by first | omega | decide | (dsimp only [SC.len]; omega) | (simp; done) | (simp; omega)) ?_ | refine rIdvN rfl rfl rfl rfl rfl rfl (by assumption) rfl ?_) | (refine kO 7 rfl ?_; first | refine rG (fun _ z => ⟨_, wWithin_p _ _ _, z⟩) ?_ | refine rG (fun _ z => ⟨_, small_sat _ _ (by omega), z⟩) ?_ | refine rG (fun _ z => ⟨_, wUnless_yes (by first | omega | rfl) _, z⟩) ?_ | refine rG (fun _ z => ⟨_, wFirst_z2, z⟩) ?_ | refine rG (fun _ z => ⟨_, g, z⟩) ?_) | (refine kO 6 rfl ?_; first | refine rLen rfl rfl rfl rfl rfl rfl ?_ | refine rLenv rfl rfl rfl rfl rfl rfl ?_ | refine rLeno rfl rfl rfl rfl rfl rfl rfl ?_ | refine rLenov rfl rfl rfl rfl rfl rfl rfl ?_ | refine rG (fun _ z => z) ?_) | (refine kO 8 rfl ?_; first | refine rSlH rfl rfl rfl rfl rfl rfl rfl (by omega) ?_ | refine rSlL rfl rfl rfl rfl rfl rfl rfl (by omega) ?_ | refine rG (fun _ z => z) ?_) | refine oN ?_ | refine aS ?_ | refine aR ?_ | refine aK ?_ | refine aX ?_ | refine aB ?_ | refine aT ?_ | refine aC rfl ?_ | refine bT ?_ | refine bF ?_ | refine bPt (by omega) ?_ | refine bPf (by omega) ?_ | refine aL ?_ | refine aE ?_ | refine oY rfl rfl rfl ?_ | refine oZ rfl rfl rfl ?_ | refine oO rfl rfl rfl ?_ | refine oIt rfl rfl rfl (by omega) ?_ | refine oIf rfl rfl rfl (by omega) ?_ | refine oUt rfl rfl rfl (by omega) ?_ | refine oUf rfl rfl rfl (by omega) ?_ | refine dI (by kernel_rfl) ?_ | refine rG (fun _ z => ⟨(by (first | omega | decide | rfl | exact lnS (by omega) | exact lnN (by decide) | exact lnN (by omega) | exact lnC (by omega) | exact lvS (by omega) | exact lvN (by decide) | exact lvC (by omega) | exact uvS rfl | exact uvN rfl | ((try unfold SC.len); (try unfold SC.uni); (try unfold LIM); (try simp); (try omega); done))), z⟩) ?_ | refine rG (fun _ z => ⟨(by (first | omega | decide | rfl | exact lnS (by omega) | exact lnN (by decide) | exact lnN (by omega) | exact lnC (by omega) | exact lvS (by omega) | exact lvN (by decide) | exact lvC (by omega) | exact uvS rfl | exact uvN rfl | ((try unfold SC.len); (try unfold SC.uni); (try unfold LIM); (try simp); (try omega); done))), (by (first | omega | decide | rfl | exact lnS (by omega) | exact lnN (by decide) | exact lnN (by omega) | exact lnC (by omega) | exact lvS (by omega) | exact lvN (by decide) | exact lvC (by omega) | exact uvS rfl | exact uvN rfl | ((try unfold SC.len); (try unfold SC.uni); (try unfold LIM); (try simp); (try omega); done))), z⟩) ?_); (try conv => whnf))
      (first | done | rfl)
    · rw [if_neg hle, if_neg (by omega)]
      refine Sat_of_awp (fn := f38) cx_ok (by kernel_rfl) (by kernel_rfl) rfl (by kernel_rfl) (Nat.le_of_ble_eq_true rfl) ?_
      repeat ((first | refine oP rfl ?_ | refine rP rfl (fun _ z => z) ?_ | (refine kO 1 rfl ?_; first | refine rAdd rfl rfl rfl (by omega) ?_ | refine rSub rfl rfl rfl (by omega) ?_ | refine rMul rfl rfl rfl (by omega) ?_ | refine rQuo rfl rfl rfl (by omega) ?_ | refine rRem rfl rfl rfl (by omega) ?_ | refine rQuo' rfl rfl rfl (by omega) ?_ | refine rRem' rfl rfl rfl (by omega) ?_ | refine rG (fun _ z => z) ?_) | (refine kO 2 rfl ?_; first | refine rNeg rfl rfl (by omega) ?_ | refine rG (fun _ z => z) ?_) | (refine kO 3 rfl ?_; first | refine rLdr rfl rfl rfl rfl rfl ?_ | refine rLdb rfl rfl rfl rfl rfl rfl rfl ?_ | refine rLdi rfl rfl rfl rfl rfl rfl (by first | omega | decide | (dsimp only [SC.len]; omega) | (simp; done) | (simp; omega)) ?_ | refine rG (fun _ z => z) ?_) | (refine kO 4 rfl ?_; first | refine rSti rfl rfl rfl rfl rfl rfl (by first | omega | decide | (dsimp only [SC.len]; omega) | (simp; done) | (simp; omega)) ?_ | refine rG (fun _ z => z) ?_) | (refine kO 5 rfl ?_; first | refine rIdN rfl rfl rfl rfl rfl rfl rfl (by first | omega | decide | (dsimp only [SC.len]; omega) | (simp; done) | (simp; omega)) ?_ | refine rIdx rfl rfl rfl rfl rfl rfl rfl (by first | omega | decide | (dsimp only [SC.len]; omega) | (simp; done) | (simp; omega)) ?_ | refine rIdoN rfl rfl rfl rfl rfl rfl rfl rfl (by first | omega | decide | (dsimp only [SC.len]; omega) | (simp; done) | (simp; omega)) ?_ | refine rIdo rfl rfl rfl rfl rfl rfl rfl rfl (by first | omega | decide | (dsimp only [SC.len]; omega) | (simp; done) | (simp; omega)) ?_ | refine rIdvN rfl rfl rfl rfl rfl rfl (by assumption) rfl ?_) | (refine kO 7 rfl ?_; first | refine rG (fun _ z => ⟨_, wWithin_p _ _ _, z⟩) ?_ | refine rG (fun _ z => ⟨_, small_sat _ _ (by omega), z⟩) ?_ | refine rG (fun _ z => ⟨_, wUnless_yes (by first | omega | rfl) _, z⟩) ?_ | refine rG (fun _ z => ⟨_, wUnless_no (by first | omega | exact Bool.false_ne_true) _, z⟩) ?_ | refine rG (fun _ z => ⟨_, wFirst_z2, z⟩) ?_) | (refine kO 6 rfl ?_; first | refine rLen rfl rfl rfl rfl rfl rfl ?_ | refine rLenv rfl rfl rfl rfl rfl rfl ?_ | refine rLeno rfl rfl rfl rfl rfl rfl rfl ?_ | refine rLenov rfl rfl rfl rfl rfl rfl rfl ?_ | refine rG (fun _ z => z) ?_) | (refine kO 8 rfl ?_; first | refine rSlH rfl rfl rfl rfl rfl rfl rfl (by omega) ?_ | refine rSlL rfl rfl rfl rfl rfl rfl rfl (by omega) ?_ | refine rG (fun _ z => z) ?_) | refine oN ?_ | refine aS ?_ | refine aR ?_ | refine aK ?_ | refine aX ?_ | refine aB ?_ | refine aT ?_ | refine aC rfl ?_ | refine bT ?_ | refine bF ?_ | refine bPt (by omega) ?_ | refine bPf (by omega) ?_ | refine aL ?_ | refine aE ?_ | refine oY rfl rfl rfl ?_ | refine oZ rfl rfl rfl ?_ | refine oO rfl rfl rfl ?_ | refine oIt rfl rfl rfl (by omega) ?_ | refine oIf rfl rfl rfl (by omega) ?_ | refine oUt rfl rfl rfl (by omega) ?_ | refine oUf rfl rfl rfl (by omega) ?_ | refine dI (by kernel_rfl) ?_ | refine rG (fun _ z => ⟨(by (first | omega | decide | rfl | exact lnS (by omega) | exact lnN (by decide) | exact lnN (by omega) | exact lnC (by omega) | exact lvS (by omega) | exact lvN (by decide) | exact lvC (by omega) | exact uvS rfl | exact uvN rfl | ((try unfold SC.len); (try unfold SC.uni); (try unfold LIM); (try simp); (try omega); done))), z⟩) ?_ | refine rG (fun _ z => ⟨(by (first | omega | decide | rfl | exact lnS (by omega) | exact lnN (by decide) | exact lnN (by omega) | exact lnC (by omega) | exact lvS (by omega) | exact lvN (by decide) | exact lvC (by omega) | exact uvS rfl | exact uvN rfl | ((try unfold SC.len); (try unfold SC.uni); (try unfold LIM); (try simp); (try omega); done))), (by (first | omega | decide | rfl | exact lnS (by omega) | exact lnN (by decide) | exact lnN (by omega) | exact lnC (by omega) | exact lvS (by omega) | exact lvN (by decide) | exact lvC (by omega) | exact uvS rfl | exact uvN rfl | ((try unfold SC.len); (try unfold SC.uni); (try unfold LIM); (try simp); (try omega); done))), z⟩) ?_); (try conv => whnf))
      (first | done | rfl)
  · rw [if_neg h, if_neg (by omega)]
    refine Sat_of_awp (fn := f38) cx_ok (by kernel_rfl) (by kernel_rfl) rfl (by kernel_rfl) (Nat.le_of_ble_eq_true rfl) ?_
    repeat' ((first | refine oP rfl ?_ | refine rP rfl (fun _ z => z) ?_ | (refine kO 1 rfl ?_; first | refine rAdd rfl rfl rfl (by omega) ?_ | refine rSub rfl rfl rfl (by omega) ?_ | refine rMul rfl rfl rfl (by omega) ?_ | refine rQuo rfl rfl rfl (by omega) ?_ | refine rRem rfl rfl rfl (by omega) ?_ | refine rQuo' rfl rfl rfl (by omega) ?_ | refine rRem' rfl rfl rfl (by omega) ?_ | refine rG (fun _ z => z) ?_) | (refine kO 2 rfl ?_; first | refine rNeg rfl rfl (by omega) ?_ | refine rG (fun _ z => z) ?_) | (refine kO 3 rfl ?_; first | refine rLdr rfl rfl rfl rfl rfl ?_ | refine rLdb rfl rfl rfl rfl rfl rfl rfl ?_ | refine rLdi rfl rfl rfl rfl rfl rfl (by first | omega | decide | (dsimp only [SC.len]; omega) | (simp; done) | (simp; omega)) ?_ | refine rG (fun _ z => z) ?_) | (refine kO 4 rfl ?_; first | refine rSti rfl rfl rfl rfl rfl rfl (by first | omega | decide | (dsimp only [SC.len]; omega) | (simp; done) | (simp; omega)) ?_ | refine rG (fun _ z => z) ?_) | (refine kO 5 rfl ?_; first | refine rIdN rfl rfl rfl rfl rfl rfl rfl (by first | omega | decide | (dsimp only [SC.len]; omega) | (simp; done) | (simp; omega)) ?_ | refine rIdx rfl rfl rfl rfl rfl rfl rfl (by first | omega | decide | (dsimp only [SC.len]; omega) | (simp; done) | (simp; omega)) ?_ | refine rIdoN rfl rfl rfl rfl rfl rfl rfl rfl (by first | omega | decide | (dsimp only [SC.len]; omega) | (simp; done) | (simp; omega)) ?_ | refine rIdo rfl rfl rfl rfl rfl rfl rfl rfl (by first | omega | decide | (dsimp only [SC.len]; omega) | (simp; done) | (simp; omega)) ?_ | refine rIdvN rfl rfl rfl rfl rfl rfl (by assumption) rfl ?_) | (refine kO 7 rfl ?_; first | refine rG (fun _ z => ⟨_, wWithin_p _ _ _, z⟩) ?_ | refine rG (fun _ z => ⟨_, small_sat _ _ (by omega), z⟩) ?_ | refine rG (fun _ z => ⟨_, wUnless_no (by first | omega | exact Bool.false_ne_true) _, z⟩) ?_ | refine rG (fun _ z => ⟨_, wUnless_yes (by first | omega | rfl) _, z⟩) ?_ | refine rG (fun _ z => ⟨_, wUnless_p _, z⟩) ?_ | refine rG (fun _ z => ⟨_, wFirst_n2 (by decide), z⟩) ?_) | (refine kO 6 rfl ?_; first | refine rLen rfl rfl rfl rfl rfl rfl ?_ | refine rLenv rfl rfl rfl rfl rfl rfl ?_ | refine rLeno rfl rfl rfl rfl rfl rfl rfl ?_ | refine rLenov rfl rfl rfl rfl rfl rfl rfl ?_ | refine rG (fun _ z => z) ?_) | (refine kO 8 rfl ?_; first | refine rSlH rfl rfl rfl rfl rfl rfl rfl (by omega) ?_ | refine rSlL rfl rfl rfl rfl rfl rfl rfl (by omega) ?_ | refine rG (fun _ z => z) ?_) | refine oN ?_ | refine aS ?_ | refine aR ?_ | refine aK ?_ | refine aX ?_ | refine aB ?_ | refine aT ?_ | refine aC rfl ?_ | refine bT ?_ | refine bF ?_ | refine bPt (by omega) ?_ | refine bPf (by omega) ?_ | refine aL ?_ | refine aE ?_ | refine oY rfl rfl rfl ?_ | refine oZ rfl rfl rfl ?_ | refine oO rfl rfl rfl ?_ | refine oIt rfl rfl rfl (by omega) ?_ | refine oIf rfl rfl rfl (by omega) ?_ | refine oUt rfl rfl rfl (by omega) ?_ | refine oUf rfl rfl rfl (by omega) ?_ | refine dI (by kernel_rfl) ?_ | refine rG (fun _ z => ⟨(by (first | omega | decide | rfl | exact lnS (by omega) | exact lnN (by decide) | exact lnN (by omega) | exact lnC (by omega) | exact lvS (by omega) | exact lvN (by decide) | exact lvC (by omega) | exact uvS rfl | exact uvN rfl | ((try unfold SC.len); (try unfold SC.uni); (try unfold LIM); (try simp); (try omega); done))), z⟩) ?_ | refine rG (fun _ z => ⟨(by (first | omega | decide | rfl | exact lnS (by omega) | exact lnN (by decide) | exact lnN (by omega) | exact lnC (by omega) | exact lvS (by omega) | exact lvN (by decide) | exact lvC (by omega) | exact uvS rfl | exact uvN rfl | ((try unfold SC.len); (try unfold SC.uni); (try unfold LIM); (try simp); (try omega); done))), (by (first | omega | decide | rfl | exact lnS (by omega) | exact lnN (by decide) | exact lnN (by omega) | exact lnC (by omega) | exact lvS (by omega) | exact lvN (by decide) | exact lvC (by omega) | exact uvS rfl | exact uvN rfl | ((try unfold SC.len); (try unfold SC.uni); (try unfold LIM); (try simp); (try omega); done))), z⟩) ?_ | refine brp (fun h => ?_) (fun h => ?_) | refine opsA_ifp rfl rfl rfl (fun h => ?_) (fun h => ?_) | refine opsA_unlessp rfl rfl rfl (fun h => ?_) (fun h => ?_)) <;> (try conv => whnf))
    all_goals (first | done | rfl)
theorem refLossOf_sat (a r lo hi : Int) : Sat cx.P cx.gl 39 [I a, I r, F2 lo hi] (.tup (if lossErr a r lo hi = 0 then [F2 (lossLo a r lo hi) (lossHi a r lo hi), I 0] else [F2 0 0, I (lossErr a r lo hi)])) := by
  unfold lossErr
  by_cases h : lossOK a r lo hi
  · rw [if_pos h]
    by_cases hle : lo ≤ hi
    · rw [if_pos hle, if_pos rfl]
      obtain ⟨m1, m2⟩ := loss_mid h
      have o1 := mnI_or (a * 1000000 - r * lo) (a * 1000000 - r * hi)
      have o2 := mxI_or (a * 1000000 - r * lo) (a * 1000000 - r * hi)
      have g1 := Floor_sat (mnI (a * 1000000 - r * lo) (a * 1000000 - r * hi)) 1000000 (by omega) (by omega)
      have g2 := Ceil_sat (mxI (a * 1000000 - r * lo) (a * 1000000 - r * hi)) 1000000 (by omega) (by omega)
      unfold mnI at g1
      unfold mxI at g2
      unfold lossLo lossHi mnI mxI
      refine Sat_of_awp (fn := f39) cx_ok (by kernel_rfl) (by kernel_rfl) rfl (by kernel_rfl) (Nat.le_of_ble_eq_true rfl) ?_
      repeat ((first | refine oP rfl ?_ | refine rP rfl (fun _ z => z) ?_ | (refine kO 1 rfl ?_; first | refine rAdd rfl rfl rfl (by omega) ?_ | refine rSub rfl rfl rfl (by omega) ?_ | refine rMul rfl rfl rfl (by omega) ?_ | refine rQuo rfl rfl rfl (by omega) ?_ | refine rRem rfl rfl rfl (by omega) ?_ | refine rQuo' rfl rfl rfl (by omega) ?_ | refine rRem' rfl rfl rfl (by omega) ?_ | refine rG (fun _ z => z) ?_) | (refine kO 2 rfl ?_; first | refine rNeg rfl rfl (by omega) ?_ | refine rG (fun _ z => z) ?_) | (refine kO 3 rfl ?_; first | refine rLdr rfl rfl rfl rfl rfl ?_ | refine rLdb rfl rfl rfl rfl rfl rfl rfl ?_ | refine rLdi rfl rfl rfl rfl rfl rfl (by first | omega | decide | (dsimp only [SC.len]; omega) | (simp; done) | (simp; omega)) ?_ | refine rG (fun _ z => z) ?_) | (refine kO 4 rfl ?_; first | refine rSti rfl rfl rfl rfl rfl rfl (by first | omega | decide | (dsimp only [SC.len]; omega) | (simp; done) | (simp; omega)) ?_ | refine rG (fun _ z => z) ?_) | (refine kO 5 rfl ?_; first | refine rIdN rfl rfl rfl rfl rfl rfl rfl (by first | omega | decide | (dsimp only [SC.len]; omega) | (simp; done) | (simp; omega)) ?_ | refine rIdx rfl rfl rfl rfl rfl rfl rfl (by first | omega | decide | (dsimp only [SC.len]; omega) | (simp; done) | (simp; omega)) ?_ | refine rIdoN rfl rfl rfl rfl rfl rfl rfl rfl (by first | omega | decide | (dsimp only [SC.len]; omega) | (simp; done) | (simp; omega)) ?_ | refine rIdo rfl rfl rfl rfl rfl rfl rfl rfl (by first | omega | decide | (dsimp only [SC.len]; omega) | (simp; done) | (simp; omega)) ?_ | refine rIdvN rfl rfl rfl rfl rfl rfl (by assumption) rfl ?_) | (refine kO 7 rfl ?_; first | refine rG (fun _ z => ⟨_, within_p _ _ _, z⟩) ?_ | refine rG (fun _ z => ⟨_, g1, z⟩) ?_ | refine rG (fun _ z => ⟨_, g2, z⟩) ?_) | (refine kO 6 rfl ?_; first | refine rLen rfl rfl rfl rfl rfl rfl ?_ | refine rLenv rfl rfl rfl rfl rfl rfl ?_ | refine rLeno rfl rfl rfl rfl rfl rfl rfl ?_ | refine rLenov rfl rfl rfl rfl rfl rfl rfl ?_ | refine rG (fun _ z => z) ?_) | (refine kO 8 rfl ?_; first | refine rSlH rfl rfl rfl rfl rfl rfl rfl (by omega) ?_ | refine rSlL rfl rfl rfl rfl rfl rfl rfl (by omega) ?_ | refine rG (fun _ z => z) ?_) | refine oN ?_ | refine aS ?_ | refine aR ?_ | refine aK ?_ | refine aX ?_ | refine aB ?_ | refine aT ?_ | refine aC rfl ?_ | refine bT ?_ | refine bF ?_ | refine bPt (by omega) ?_ | refine bPf (by omega) ?_ | refine aL ?_ | refine aE ?_ | refine oY rfl rfl rfl ?_ | refine oZ rfl rfl rfl ?_ | refine oO rfl rfl rfl ?_ | refine oIt rfl rfl rfl (by omega) ?_ | refine oIf rfl rfl rfl (by omega) ?_ | refine oUt rfl rfl rfl (by omega) ?_ | refine oUf rfl rfl rfl (by omega) ?_ | refine dI (by kernel_rfl) ?_ | refine rG (fun _ z => ⟨(by (first | omega | decide | rfl | exact lnS (by omega) | exact lnN (by decide) | exact lnN (by omega) | exact lnC (by omega) | exact lvS (by omega) | exact lvN (by decide) | exact lvC (by omega) | exact uvS rfl | exact uvN rfl | ((try unfold SC.len); (try unfold SC.uni); (try unfold LIM); (try simp); (try omega); done))), z⟩) ?_ | refine rG (fun _ z => ⟨(by (first | omega | decide | rfl | exact lnS (by omega) | exact lnN (by decide) | exact lnN (by omega) | exact lnC (by omega) | exact lvS (by omega) | exact lvN (by decide) | exact lvC (by omega) | exact uvS rfl | exact uvN rfl | ((try unfold SC.len); (try unfold SC.uni); (try unfold LIM); (try simp); (try omega); done))), (by (first | omega | decide | rfl | exact lnS (by omega) | exact lnN (by decide) | exact lnN (by omega) | exact lnC (by omega) | exact lvS (by omega) | exact lvN (by decide) | exact lvC (by omega) | exact uvS rfl | exact uvN rfl | ((try unfold SC.len); (try unfold SC.uni); (try unfold LIM); (try simp); (try omega); done))), z⟩) ?_); (try conv => whnf))
      (first | done | rfl)
    · rw [if_neg hle, if_neg (by omega)]
      refine Sat_of_awp (fn := f39) cx_ok (by kernel_rfl) (by kernel_rfl) rfl (by kernel_rfl) (Nat.le_of_ble_eq_true rfl) ?_
      repeat ((first | refine oP rfl ?_ | refine rP rfl (fun _ z => z) ?_ | (refine kO 1 rfl ?_; first | refine rAdd rfl rfl rfl (by omega) ?_ | refine rSub rfl rfl rfl (by omega) ?_ | refine rMul rfl rfl rfl (by omega) ?_ | refine rQuo rfl rfl rfl (by omega) ?_ | refine rRem rfl rfl rfl (by omega) ?_ | refine rQuo' rfl rfl rfl (by omega) ?_ | refine rRem' rfl rfl rfl (by omega) ?_ | refine rG (fun _ z => z) ?_) | (refine kO 2 rfl ?_; first | refine rNeg rfl rfl (by omega) ?_ | refine rG (fun _ z => z) ?_) | (refine kO 3 rfl ?_; first | refine rLdr rfl rfl rfl rfl rfl ?_ | refine rLdb rfl rfl rfl rfl rfl rfl rfl ?_ | refine rLdi rfl rfl rfl rfl rfl rfl (by first | omega | decide | (dsimp only [SC.len]; omega) | (simp; done) | (simp; omega)) ?_ | refine rG (fun _ z => z) ?_) | (refine kO 4 rfl ?_; first | refine rSti rfl rfl rfl rfl rfl rfl (by first | omega | decide | (dsimp only [SC.len]; omega) | (simp; done) | (simp; omega)) ?_ | refine rG (fun _ z => z) ?_) | (refine kO 5 rfl ?_; first | refine rIdN rfl rfl rfl rfl rfl rfl rfl (by first | omega | decide | (dsimp only [SC.len]; omega) | (simp; done) | (simp; omega)) ?_ | refine rIdx rfl rfl rfl rfl rfl rfl rfl (by first | omega | decide | (dsimp only [SC.len]; omega) | (simp; done) | (simp; omega)) ?_ | refine rIdoN rfl rfl rfl rfl rfl rfl rfl rfl (by first | omega | decide | (dsimp only [SC.len]; omega) | (simp; done) | (simp; omega)) ?_ | refine rIdo rfl rfl rfl rfl rfl rfl rfl rfl (by first | omega | decide | (dsimp only [SC.len]; omega) | (simp; done) | (simp; omega)) ?_ | refine rIdvN rfl rfl rfl rfl rfl rfl (by assumption) rfl ?_) | (refine kO 7 rfl ?_; first | refine rG (fun _ z => ⟨_, within_p _ _ _, z⟩) ?_) | (refine kO 6 rfl ?_; first | refine rLen rfl rfl rfl rfl rfl rfl ?_ | refine rLenv rfl rfl rfl rfl rfl rfl ?_ | refine rLeno rfl rfl rfl rfl rfl rfl rfl ?_ | refine rLenov rfl rfl rfl rfl rfl rfl rfl ?_ | refine rG (fun _ z => z) ?_) | (refine kO 8 rfl ?_; first | refine rSlH rfl rfl rfl rfl rfl rfl rfl (by omega) ?_ | refine rSlL rfl rfl rfl rfl rfl rfl rfl (by omega) ?_ | refine rG (fun _ z => z) ?_) | refine oN ?_ | refine aS ?_ | refine aR ?_ | refine aK ?_ | refine aX ?_ | refine aB ?_ | refine aT ?_ | refine aC rfl ?_ | refine bT ?_ | refine bF ?_ | refine bPt (by omega) ?_ | refine bPf (by omega) ?_ | refine aL ?_ | refine aE ?_ | refine oY rfl rfl rfl ?_ | refine oZ rfl rfl rfl ?_ | refine oO rfl rfl rfl ?_ | refine oIt rfl rfl rfl (by omega) ?_ | refine oIf rfl rfl rfl (by omega) ?_ | refine oUt rfl rfl rfl (by omega) ?_ | refine oUf rfl rfl rfl (by omega) ?_ | refine dI (by kernel_rfl) ?_ | refine rG (fun _ z => ⟨(by (first | omega | decide | rfl | exact lnS (by omega) | exact lnN (by decide) | exact lnN (by omega) | exact lnC (by omega) | exact lvS (by omega) | exact lvN (by decide) | exact lvC (by omega) | exact uvS rfl | exact uvN rfl | ((try unfold SC.len); (try unfold SC.uni); (try unfold LIM); (try simp); (try omega); done))), z⟩) ?_ | refine rG (fun _ z => ⟨(by (first | omega | decide | rfl | exact lnS (by omega) | exact lnN (by decide) | exact lnN (by omega) | exact lnC (by omega) | exact lvS (by omega) | exact lvN (by decide) | exact lvC (by omega) | exact uvS rfl | exact uvN rfl | ((try unfold SC.len); (try unfold SC.uni); (try unfold LIM); (try simp); (try omega); done))), (by (first | omega | decide | rfl | exact lnS (by omega) | exact lnN (by decide) | exact lnN (by omega) | exact lnC (by omega) | exact lvS (by omega) | exact lvN (by decide) | exact lvC (by omega) | exact uvS rfl | exact uvN rfl | ((try unfold SC.len); (try unfold SC.uni); (try unfold LIM); (try simp); (try omega); done))), z⟩) ?_); (try conv => whnf))
      (first | done | rfl)
  · rw [if_neg h, if_neg (by omega)]
    refine Sat_of_awp (fn := f39) cx_ok (by kernel_rfl) (by kernel_rfl) rfl (by kernel_rfl) (Nat.le_of_ble_eq_true rfl) ?_
    repeat' ((first | refine oP rfl ?_ | refine rP rfl (fun _ z => z) ?_ | (refine kO 1 rfl ?_; first | refine rAdd rfl rfl rfl (by omega) ?_ | refine rSub rfl rfl rfl (by omega) ?_ | refine rMul rfl rfl rfl (by omega) ?_ | refine rQuo rfl rfl rfl (by omega) ?_ | refine rRem rfl rfl rfl (by omega) ?_ | refine rQuo' rfl rfl rfl (by omega) ?_ | refine rRem' rfl rfl rfl (by omega) ?_ | refine rG (fun _ z => z) ?_) | (refine kO 2 rfl ?_; first | refine rNeg rfl rfl (by omega) ?_ | refine rG (fun _ z => z) ?_) | (refine kO 3 rfl ?_; first | refine rLdr rfl rfl rfl rfl rfl ?_ | refine rLdb rfl rfl rfl rfl rfl rfl rfl ?_ | refine rLdi rfl rfl rfl rfl rfl rfl (by first | omega | decide | (dsimp only [SC.len]; omega) | (simp; done) | (simp; omega)) ?_ | refine rG (fun _ z => z) ?_) | (refine kO 4 rfl ?_; first | refine rSti rfl rfl rfl rfl rfl rfl (by first | omega | decide | (dsimp only [SC.len]; omega) | (simp; done) | (simp; omega)) ?_ | refine rG (fun _ z => z) ?_) | (refine kO 5 rfl ?_; first | refine rIdN rfl rfl rfl rfl rfl rfl rfl (by first | omega | decide | (dsimp only [SC.len]; omega) | (simp; done) | (simp; omega)) ?_ | refine rIdx rfl rfl rfl rfl rfl rfl rfl (by first | omega | decide | (dsimp only [SC.len]; omega) | (simp; done) | (simp; omega)) ?_ | refine rIdoN rfl rfl rfl rfl rfl rfl rfl rfl (by first | omega | decide | (dsimp only [SC.len]; omega) | (simp; done) | (simp; omega)) ?_ | refine rIdo rfl rfl rfl rfl rfl rfl rfl rfl (by first | omega | decide | (dsimp only [SC.len]; omega) | (simp; done) | (simp; omega)) ?_ | refine rIdvN rfl rfl rfl rfl rfl rfl (by assumption) rfl ?_) | (refine kO 7 rfl ?_; first | refine rG (fun _ z => ⟨_, within_p _ _ _, z⟩) ?_) | (refine kO 6 rfl ?_; first | refine rLen rfl rfl rfl rfl rfl rfl ?_ | refine rLenv rfl rfl rfl rfl rfl rfl ?_ | refine rLeno rfl rfl rfl rfl rfl rfl rfl ?_ | refine rLenov rfl rfl rfl rfl rfl rfl rfl ?_ | refine rG (fun _ z => z) ?_) | (refine kO 8 rfl ?_; first | refine rSlH rfl rfl rfl rfl rfl rfl rfl (by omega) ?_ | refine rSlL rfl rfl rfl rfl rfl rfl rfl (by omega) ?_ | refine rG (fun _ z => z) ?_) | refine oN ?_ | refine aS ?_ | refine aR ?_ | refine aK ?_ | refine aX ?_ | refine aB ?_ | refine aT ?_ | refine aC rfl ?_ | refine bT ?_ | refine bF ?_ | refine bPt (by omega) ?_ | refine bPf (by omega) ?_ | refine aL ?_ | refine aE ?_ | refine oY rfl rfl rfl ?_ | refine oZ rfl rfl rfl ?_ | refine oO rfl rfl rfl ?_ | refine oIt rfl rfl rfl (by omega) ?_ | refine oIf rfl rfl rfl (by omega) ?_ | refine oUt rfl rfl rfl (by omega) ?_ | refine oUf rfl rfl rfl (by omega) ?_ | refine dI (by kernel_rfl) ?_ | refine rG (fun _ z => ⟨(by (first | omega | decide | rfl | exact lnS (by omega) | exact lnN (by decide) | exact lnN (by omega) | exact lnC (by omega) | exact lvS (by omega) | exact lvN (by decide) | exact lvC (by omega) | exact uvS rfl | exact uvN rfl | ((try unfold SC.len); (try unfold SC.uni); (try unfold LIM); (try simp); (try omega); done))), z⟩) ?_ | refine rG (fun _ z => ⟨(by (first | omega | decide | rfl | exact lnS (by omega) | exact lnN (by decide) | exact lnN (by omega) | exact lnC (by omega) | exact lvS (by omega) | exact lvN (by decide) | exact lvC (by omega) | exact uvS rfl | exact uvN rfl | ((try unfold SC.len); (try unfold SC.uni); (try unfold LIM); (try simp); (try omega); done))), (by (first | omega | decide | rfl | exact lnS (by omega) | exact lnN (by decide) | exact lnN (by omega) | exact lnC (by omega) | exact lvS (by omega) | exact lvN (by decide) | exact lvC (by omega) | exact uvS rfl | exact uvN rfl | ((try unfold SC.len); (try unfold SC.uni); (try unfold LIM); (try simp); (try omega); done))), z⟩) ?_ | refine brp (fun h => ?_) (fun h => ?_) | refine opsA_ifp rfl rfl rfl (fun h => ?_) (fun h => ?_) | refine opsA_unlessp rfl rfl rfl (fun h => ?_) (fun h => ?_)) <;> (try conv => whnf))
    all_goals first | (first | done | rfl) | (exfalso; omega)
theorem loss_zero (a r : Int) (h : lossOK a r 0 0) : lossLo a r 0 0 = a ∧ lossHi a r 0 0 = a := by
  unfold lossLo lossHi mnI mxI
  simp only [Int.mul_zero, Int.sub_zero, Int.lt_irrefl, if_false, gt_iff_lt]
  omega
theorem waveLosses_sat (a r lo hi : Int) : Sat cx.P cx.gl 7 [I a, I r, F2 lo hi] (.one (Bo true)) := by
  have s1 := lossOf_sat a r lo hi
  have s2 := refLossOf_sat a r lo hi
  by_cases h : lossErr a r lo hi = 0
  · rw [if_pos h] at s1 s2
    have h0 : lossOK a r 0 0 := by
      unfold lossErr at h
      split at h
      · omega
      · omega
    have s3 := lossOf_sat a r 0 0
    rw [if_pos (by unfold lossErr; rw [if_pos h0]; rfl), (loss_zero a r h0).1, (loss_zero a r h0).2] at s3
    refine Sat_of_awp (fn := f7) cx_ok (by kernel_rfl) (by kernel_rfl) rfl (by kernel_rfl) (Nat.le_of_ble_eq_true rfl) ?_
    repeat ((first | refine oP rfl ?_ | refine rP rfl (fun _ z => z) ?_ | (refine kO 1 rfl ?_; first | refine rAdd rfl rfl rfl (by omega) ?_ | refine rSub rfl rfl rfl (by omega) ?_ | refine rMul rfl rfl rfl (by omega) ?_ | refine rQuo rfl rfl rfl (by omega) ?_ | refine rRem rfl rfl rfl (by omega) ?_ | refine rQuo' rfl rfl rfl (by omega) ?_ | refine rRem' rfl rfl rfl (by omega) ?_ | refine rG (fun _ z => z) ?_) | (refine kO 2 rfl ?_; first | refine rNeg rfl rfl (by omega) ?_ | refine rG (fun _ z => z) ?_) | (refine kO 3 rfl ?_; first | refine rLdr rfl rfl rfl rfl rfl ?_ | refine rLdb rfl rfl rfl rfl rfl rfl rfl ?_ | refine rLdi rfl rfl rfl rfl rfl rfl (by first | omega | decide | (dsimp only [SC.len]; omega) | (simp; done) | (simp; omega)) ?_ | refine rG (fun _ z => z) ?_) | (refine kO 4 rfl ?_; first | refine rSti rfl rfl rfl rfl rfl rfl (by first | omega | decide | (dsimp only [SC.len]; omega) | (simp; done) | (simp; omega)) ?_ | refine rG (fun _ z => z) ?_) | (refine kO 5 rfl ?_; first | refine rIdN rfl rfl rfl rfl rfl rfl rfl (by first | omega | decide | (dsimp only [SC.len]; omega) | (simp; done) | (simp; omega)) ?_ | refine rIdx rfl rfl rfl rfl rfl rfl rfl (by first | omega | decide | (dsimp only [SC.len]; omega) | (simp; done) | (simp; omega)) ?_ | refine rIdoN rfl rfl rfl rfl rfl rfl rfl rfl (by first | omega | decide | (dsimp only [SC.len]; omega) | (simp; done) | (simp; omega)) ?_ | refine rIdo rfl rfl rfl rfl rfl rfl rfl rfl (by first | omega | decide | (dsimp only [SC.len]; omega) | (simp; done) | (simp; omega)) ?_ | refine rIdvN rfl rfl rfl rfl rfl rfl (by assumption) rfl ?_) | (refine kO 7 rfl ?_; first | refine rG (fun _ z => ⟨_, awake8_sat, z⟩) ?_ | refine rG (fun _ z => ⟨_, s1, z⟩) ?_ | refine rG (fun _ z => ⟨_, s2, z⟩) ?_ | refine rG (fun _ z => ⟨_, s3, z⟩) ?_) | (refine kO 6 rfl ?_; first | refine rLen rfl rfl rfl rfl rfl rfl ?_ | refine rLenv rfl rfl rfl rfl rfl rfl ?_ | refine rLeno rfl rfl rfl rfl rfl rfl rfl ?_ | refine rLenov rfl rfl rfl rfl rfl rfl rfl ?_ | refine rG (fun _ z => z) ?_) | (refine kO 8 rfl ?_; first | refine rSlH rfl rfl rfl rfl rfl rfl rfl (by omega) ?_ | refine rSlL rfl rfl rfl rfl rfl rfl rfl (by omega) ?_ | refine rG (fun _ z => z) ?_) | refine oN ?_ | refine aS ?_ | refine aR ?_ | refine aK ?_ | refine aX ?_ | refine aB ?_ | refine aT ?_ | refine aC rfl ?_ | refine bT ?_ | refine bF ?_ | refine bPt (by omega) ?_ | refine bPf (by omega) ?_ | refine aL ?_ | refine aE ?_ | refine oY rfl rfl rfl ?_ | refine oZ rfl rfl rfl ?_ | refine oO rfl rfl rfl ?_ | refine oIt rfl rfl rfl (by omega) ?_ | refine oIf rfl rfl rfl (by omega) ?_ | refine oUt rfl rfl rfl (by omega) ?_ | refine oUf rfl rfl rfl (by omega) ?_ | refine dI (by kernel_rfl) ?_ | refine rG (fun _ z => ⟨(by (first | omega | decide | rfl | exact lnS (by omega) | exact lnN (by decide) | exact lnN (by omega) | exact lnC (by omega) | exact lvS (by omega) | exact lvN (by decide) | exact lvC (by omega) | exact uvS rfl | exact uvN rfl | ((try unfold SC.len); (try unfold SC.uni); (try unfold LIM); (try simp); (try omega); done))), z⟩) ?_ | refine rG (fun _ z => ⟨(by (first | omega | decide | rfl | exact lnS (by omega) | exact lnN (by decide) | exact lnN (by omega) | exact lnC (by omega) | exact lvS (by omega) | exact lvN (by decide) | exact lvC (by omega) | exact uvS rfl | exact uvN rfl | ((try unfold SC.len); (try unfold SC.uni); (try unfold LIM); (try simp); (try omega); done))), (by (first | omega | decide | rfl | exact lnS (by omega) | exact lnN (by decide) | exact lnN (by omega) | exact lnC (by omega) | exact lvS (by omega) | exact lvN (by decide) | exact lvC (by omega) | exact uvS rfl | exact uvN rfl | ((try unfold SC.len); (try unfold SC.uni); (try unfold LIM); (try simp); (try omega); done))), z⟩) ?_); (try conv => whnf))
    exact res_bo (by simp)
  · rw [if_neg h] at s1 s2
    generalize lossErr a r lo hi = z0 at *
    refine Sat_of_awp (fn := f7) cx_ok (by kernel_rfl) (by kernel_rfl) rfl (by kernel_rfl) (Nat.le_of_ble_eq_true rfl) ?_
    repeat ((first | refine oP rfl ?_ | refine rP rfl (fun _ z => z) ?_ | (refine kO 1 rfl ?_; first | refine rAdd rfl rfl rfl (by omega) ?_ | refine rSub rfl rfl rfl (by omega) ?_ | refine rMul rfl rfl rfl (by omega) ?_ | refine rQuo rfl rfl rfl (by omega) ?_ | refine rRem rfl rfl rfl (by omega) ?_ | refine rQuo' rfl rfl rfl (by omega) ?_ | refine rRem' rfl rfl rfl (by omega) ?_ | refine rG (fun _ z => z) ?_) | (refine kO 2 rfl ?_; first | refine rNeg rfl rfl (by omega) ?_ | refine rG (fun _ z => z) ?_) | (refine kO 3 rfl ?_; first | refine rLdr rfl rfl rfl rfl rfl ?_ | refine rLdb rfl rfl rfl rfl rfl rfl rfl ?_ | refine rLdi rfl rfl rfl rfl rfl rfl (by first | omega | decide | (dsimp only [SC.len]; omega) | (simp; done) | (simp; omega)) ?_ | refine rG (fun _ z => z) ?_) | (refine kO 4 rfl ?_; first | refine rSti rfl rfl rfl rfl rfl rfl (by first | omega | decide | (dsimp only [SC.len]; omega) | (simp; done) | (simp; omega)) ?_ | refine rG (fun _ z => z) ?_) | (refine kO 5 rfl ?_; first | refine rIdN rfl rfl rfl rfl rfl rfl rfl (by first | omega | decide | (dsimp only [SC.len]; omega) | (simp; done) | (simp; omega)) ?_ | refine rIdx rfl rfl rfl rfl rfl rfl rfl (by first | omega | decide | (dsimp only [SC.len]; omega) | (simp; done) | (simp; omega)) ?_ | refine rIdoN rfl rfl rfl rfl rfl rfl rfl rfl (by first | omega | decide | (dsimp only [SC.len]; omega) | (simp; done) | (simp; omega)) ?_ | refine rIdo rfl rfl rfl rfl rfl rfl rfl rfl (by first | omega | decide | (dsimp only [SC.len]; omega) | (simp; done) | (simp; omega)) ?_ | refine rIdvN rfl rfl rfl rfl rfl rfl (by assumption) rfl ?_) | (refine kO 7 rfl ?_; first | refine rG (fun _ z => ⟨_, awake8_sat, z⟩) ?_ | refine rG (fun _ z => ⟨_, s1, z⟩) ?_ | refine rG (fun _ z => ⟨_, s2, z⟩) ?_) | (refine kO 6 rfl ?_; first | refine rLen rfl rfl rfl rfl rfl rfl ?_ | refine rLenv rfl rfl rfl rfl rfl rfl ?_ | refine rLeno rfl rfl rfl rfl rfl rfl rfl ?_ | refine rLenov rfl rfl rfl rfl rfl rfl rfl ?_ | refine rG (fun _ z => z) ?_) | (refine kO 8 rfl ?_; first | refine rSlH rfl rfl rfl rfl rfl rfl rfl (by omega) ?_ | refine rSlL rfl rfl rfl rfl rfl rfl rfl (by omega) ?_ | refine rG (fun _ z => z) ?_) | refine oN ?_ | refine aS ?_ | refine aR ?_ | refine aK ?_ | refine aX ?_ | refine aB ?_ | refine aT ?_ | refine aC rfl ?_ | refine bT ?_ | refine bF ?_ | refine bPt (by omega) ?_ | refine bPf (by omega) ?_ | refine aL ?_ | refine aE ?_ | refine oY rfl rfl rfl ?_ | refine oZ rfl rfl rfl ?_ | refine oO rfl rfl rfl ?_ | refine oIt rfl rfl rfl (by omega) ?_ | refine oIf rfl rfl rfl (by omega) ?_ | refine oUt rfl rfl rfl (by omega) ?_ | refine oUf rfl rfl rfl (by omega) ?_ | refine dI (by kernel_rfl) ?_ | refine rG (fun _ z => ⟨(by (first | omega | decide | rfl | exact lnS (by omega) | exact lnN (by decide) | exact lnN (by omega) | exact lnC (by omega) | exact lvS (by omega) | exact lvN (by decide) | exact lvC (by omega) | exact uvS rfl | exact uvN rfl | ((try unfold SC.len); (try unfold SC.uni); (try unfold LIM); (try simp); (try omega); done))), z⟩) ?_ | refine rG (fun _ z => ⟨(by (first | omega | decide | rfl | exact lnS (by omega) | exact lnN (by decide) | exact lnN (by omega) | exact lnC (by omega) | exact lvS (by omega) | exact lvN (by decide) | exact lvC (by omega) | exact uvS rfl | exact uvN rfl | ((try unfold SC.len); (try unfold SC.uni); (try unfold LIM); (try simp); (try omega); done))), (by (first | omega | decide | rfl | exact lnS (by omega) | exact lnN (by decide) | exact lnN (by omega) | exact lnC (by omega) | exact lvS (by omega) | exact lvN (by decide) | exact lvC (by omega) | exact uvS rfl | exact uvN rfl | ((try unfold SC.len); (try unfold SC.uni); (try unfold LIM); (try simp); (try omega); done))), z⟩) ?_); (try conv => whnf))
    (first | done | rfl)
end Go.Proofs.Tryd

/- The package variable 'never' holds what its text lays. -/
namespace Go.Proofs.Tryd
open Go.Fw Go.ChangeShapes Go.WideShapes Go.ChangeAt Go.RowKit
set_option maxRecDepth 100000
abbrev laidD : List (String × DataW Unit) := [("buchholz/wave.never", Go.Proofs.YtnamnocgjggnmaaDoor.Rows.laid_buchholz_wave_never)]
theorem own : ownKnob prog.godebug = none := by kernel_rfl
theorem laidOut : laidOutB prog = true := by kernel_rfl
theorem door_met (os : Os) (args : Array Value) : laidMetH prog laidD ((World.doorLaid prog 400 os).forCall (fun _ _ => 0) ⟨#[], args, []⟩).memory :=
  laidMetH_of_parts3 (fuel := 8) (laidMet_of_run' 8 (by kernel_rfl) (by kernel_rfl)) (by kernel_rfl) (by kernel_rfl)
theorem frac_of {w : World} {m : Nat} {l : List Value} {i j : Int} {x : DataW Unit × List MemPlace}
    (hd : DataW.trod (fun _ => ()) prog w 0 (fun _ => true) false m 23 l = some x) (hx : x.1 = .agg [.lit (.int .i64 i), .lit (.int .i64 j)]) : l = [.int .i64 i, .int .i64 j] := by
  obtain ⟨xs, n, rfl, rfl, hlen, hxl, hel⟩ := DataW.trod_struct underlying23 hd
  have c2 : prog.cellsOf 23 = 2 := by kernel_rfl
  have c3 : prog.cellsOf 3 = 1 := by kernel_rfl
  rw [c2] at hlen
  simp only [DataW.agg.injEq] at hx
  match l, hlen, xs, hx with
  | [v0, v1], _, [x0, x1], hx =>
    simp only [List.map_cons, List.map_nil, List.cons.injEq, and_true] at hx
    have h0 := hel 0 _ rfl
    have h1 := hel 1 _ rfl
    change DataW.trod (fun _ => ()) prog w 0 (fun _ => true) false n 3 (List.take (prog.cellsOf 3) (List.drop 0 [v0, v1])) = some x0 at h0
    change DataW.trod (fun _ => ()) prog w 0 (fun _ => true) false n 3 (List.take (prog.cellsOf 3) (List.drop 1 [v0, v1])) = some x1 at h1
    rw [c3] at h0 h1
    simp only [List.drop_zero, List.take_succ_cons, List.take_zero, List.drop_succ_cons] at h0 h1
    obtain ⟨d0, q0⟩ := x0
    obtain ⟨d1, q1⟩ := x1
    obtain ⟨rfl, rfl⟩ := hx
    obtain ⟨k0, e0, f0, _⟩ := DataW.trod_int underlying3 h0
    obtain ⟨k1, e1, f1, _⟩ := DataW.trod_int underlying3 h1
    simp only [List.cons.injEq, and_true] at e0 e1
    simp only [Prod.mk.injEq, DataW.lit.injEq, Lit.int.injEq, true_and] at f0 f1
    rw [e0, e1, ← f0.1, ← f1.1]
theorem glob_ok {W : World} (h : laidMetH prog laidD W) : GlobOK cx.gl (rd W) := by
  have h1 : laidMet prog laidD W := (laidMetH_iff.1 h).1
  obtain ⟨ps, ⟨g, t, cs, fuel, p, q, hg, ht, hv, hd, _, _⟩, _, _⟩ := h1
  obtain rfl := Option.some.inj ((show prog.globalNamed "buchholz/wave.never" = some 0 by kernel_rfl).symm.trans hg)
  obtain rfl := Option.some.inj ((show (prog.globals[0]?).map (·.type) = some 153 by kernel_rfl).symm.trans ht)
  obtain ⟨xs, m, rfl, hx, hlen, hxl, hel⟩ := DataW.trod_struct underlying153 hd
  have c4 : prog.cellsOf 153 = 4 := by kernel_rfl
  have c2 : prog.cellsOf 23 = 2 := by kernel_rfl
  rw [c4] at hlen
  have hx1 : DataW.agg (xs.map (·.1)) = DataW.agg [_, _] := (congrArg Prod.fst hx).symm
  simp only [DataW.agg.injEq] at hx1
  obtain ⟨l⟩ := cs
  match xs, hx1, l, hlen with
  | [x0, x1], hx1, [v0, v1, v2, v3], _ =>
    simp only [List.map_cons, List.map_nil, List.cons.injEq, and_true] at hx1
    obtain ⟨y0, y1⟩ := hx1
    have h0 := hel 0 _ rfl
    have h1 := hel 1 _ rfl
    change DataW.trod (fun _ => ()) prog W 0 (fun _ => true) false m 23 (List.take (prog.cellsOf 23) (List.drop 0 [v0, v1, v2, v3])) = some x0 at h0
    change DataW.trod (fun _ => ()) prog W 0 (fun _ => true) false m 23 (List.take (prog.cellsOf 23) (List.drop 2 [v0, v1, v2, v3])) = some x1 at h1
    rw [c2] at h0 h1
    have k0 := frac_of h0 y0
    have k1 := frac_of h1 y1
    simp at k0 k1
    obtain ⟨rfl, rfl⟩ := k0
    obtain ⟨rfl, rfl⟩ := k1
    intro g cs hm k x hk
    simp only [cx, List.mem_singleton, Prod.mk.injEq] at hm
    obtain ⟨rfl, rfl⟩ := hm
    have hc := World.var?_cell hg hv k
    match k, hk with
    | 0, hk => simp at hk; subst hk; exact ⟨_, hc, .lit rfl⟩
    | 1, hk => simp at hk; subst hk; exact ⟨_, hc, .lit rfl⟩
    | 2, hk => simp at hk; subst hk; exact ⟨_, hc, .lit rfl⟩
    | 3, hk => simp at hk; subst hk; exact ⟨_, hc, .lit rfl⟩
    | k + 4, hk => simp at hk
end Go.Proofs.Tryd

/- Arguments of chapter 8 that fit their types. -/
namespace Go.Proofs.Tryd
open Go.Fw
theorem fit_two {C : Ctx} {d : Nat} {t a b : TypeId} {i j k : TI} {xs : List SC} {o1 o2 : Nat} (hi : C.ti t = some i) (hk : i.cls = .struct [(o1, a), (o2, b)]) (ha : C.ti a = some j) (hb : C.ti b = some k) (ja : j.cls = .int .i64) (kb : k.cls = .int .i64) (h : Fit C (d + 2) t xs) : ∃ p q : Int, xs = [.lit (.int .i64 p), .lit (.int .i64 q)] ∧ inI p ∧ inI q := by
  obtain ⟨p, q, rfl, h2, p', q', rfl, h3, rfl⟩ := fit_struct hi hk h
  obtain ⟨n, rfl, n1, n2⟩ := fit_i64 ha ja h2
  obtain ⟨m, rfl, m1, m2⟩ := fit_i64 hb kb h3
  exact ⟨n, m, rfl, ⟨n1, n2⟩, ⟨m1, m2⟩⟩
theorem fit_oneInt {x : SV} (h : FitV cx 4 3 x) : ∃ n : Int, x = I n ∧ inI n := by
  obtain ⟨e, h1⟩ := fitV_one rfl rfl h
  obtain ⟨n, e1, h2, h3⟩ := fit_i64 (by rfl) (by rfl) h1
  exact ⟨n, by rw [e, e1], h2, h3⟩
theorem fit_range {x : SV} (h : FitV cx 4 49 x) : ∃ a b : Int, x = F2 a b ∧ inI a ∧ inI b := by
  obtain ⟨e, h1⟩ := fitV_agg rfl rfl h
  obtain ⟨a, b, e1, h2, h3⟩ := fit_two (by rfl) (by rfl) (by rfl) (by rfl) (by rfl) (by rfl) h1
  exact ⟨a, b, by rw [e, e1], h2, h3⟩
theorem fit_ranges2 {x : SV} (h : FitV cx 4 94 x) : ∃ a b c d : Int, x = F4 a b c d := by
  obtain ⟨e, h1⟩ := fitV_agg rfl rfl h
  obtain ⟨p, q, e1, h2, p2, q2, e2, h3, e3⟩ := fit_array (by rfl) (by rfl) h1
  obtain ⟨a, b, rfl, _⟩ := fit_two (by rfl) (by rfl) (by rfl) (by rfl) (by rfl) (by rfl) h2
  obtain ⟨c, d, rfl, _⟩ := fit_two (by rfl) (by rfl) (by rfl) (by rfl) (by rfl) (by rfl) h3
  exact ⟨a, b, c, d, by rw [e, e1, e2, e3]; rfl⟩
theorem fit_int3 {x : SV} (h : FitV cx 4 58 x) : ∃ a b c : Int, x = (true, [J a, J b, J c]) ∧ inI a ∧ inI b ∧ inI c := by
  obtain ⟨e, h1⟩ := fitV_agg rfl rfl h
  obtain ⟨p, q, e1, h2, p2, q2, e2, h3, p3, q3, e3, h4, e4⟩ := fit_array (by rfl) (by rfl) h1
  obtain ⟨a, rfl, a1, a2⟩ := fit_i64 (by rfl) (by rfl) h2
  obtain ⟨b, rfl, b1, b2⟩ := fit_i64 (by rfl) (by rfl) h3
  obtain ⟨c, rfl, c1, c2⟩ := fit_i64 (by rfl) (by rfl) h4
  exact ⟨a, b, c, by rw [e, e1, e2, e3, e4]; rfl, ⟨a1, a2⟩, ⟨b1, b2⟩, c1, c2⟩
end Go.Proofs.Tryd

/-
  The law WaveLosses of chapter 8 returns true for every loss, and leaves its arguments as they were, where the variable never holds what the program's text lays.
-/
namespace Go.Proofs.YtnamnocgjggnmaaDoor.waveLosses
open Go.Fw Go.ChangeShapes Go.WideShapes Go.ChangeAt Go.RowKit Go.Proofs.Tryd
set_option maxRecDepth 100000 in
theorem walk (xs : List SV) (h : FitL cx 4 Tryd.f7.params.toList xs) : Sat cx.P cx.gl 7 xs (.one (false, [.lit (.bool true)])) := by
  rw [Tryd.params7] at h
  obtain ⟨x, y, z, rfl, h1, h2, h3⟩ := fitL3 (t := 3) (u := 3) (v := 49) h
  obtain ⟨a, rfl, _⟩ := fit_oneInt h1
  obtain ⟨r, rfl, _⟩ := fit_oneInt h2
  obtain ⟨lo, hi, rfl, _, _⟩ := fit_range h3
  exact waveLosses_sat a r lo hi
set_option maxRecDepth 100000 in
theorem lifted (os : Os) (started : os.Started) (H : Type) (enc : TypeId × Value → H) :
    ReturnsInHanded {} Tryd.checked os 7 .any (fun w args => (Rows.waveLossesSpec.pre enc Tryd.prog Tryd.f7 [] false w args ∧ laidMetH Tryd.prog laidD w) ∧ sizedMet enc Tryd.prog Tryd.f7 (OpenSpec.ofChange Rows.waveLossesSpec) false w args)
      (Rows.waveLossesSpec.post enc Tryd.prog Tryd.f7 false true false false) := by
  refine returnsInHanded_of_change_and (C := Tryd.checked) (X := fun w _ => laidMetH Tryd.prog laidD w) (fun _ _ _ hh h => h.of_heap hh) own started (by kernel_rfl) Tryd.func7
    (ChangeSpec.witness_shaped (enc := enc) (C := Tryd.checked) (os := os) (X := fun w _ => laidMetH Tryd.prog laidD w) false (World.doorLaid Tryd.prog 400 os) #[.int .i64 0, .int .i64 0, .agg #[.int .i64 0, .int .i64 0]] 8 rfl (World.shaped_of_RefB (by kernel_rfl) (by kernel_rfl)) (by kernel_rfl) (by kernel_rfl) (by kernel_rfl) (door_met os _)) ?_
  intro W base args ds gs before hval hW _ _ hL _
  exact law_calls_gl (C := cx) (d := 4) cx_ok laidOut (by kernel_rfl) (by kernel_rfl) rfl (by kernel_rfl) rfl
    (fun ds hl => by
      rw [Tryd.params7] at hl
      match ds, hl with
      | [d1, d2, d3], _ => rfl) walk (glob_ok hL) hval hW
theorem over : Rows.WaveLossesSaid :=
  OpenClaim.holds_of_wide 7 Tryd.f7 rfl rfl rfl rfl rfl rfl rfl ⟨rfl, rfl, rfl, rfl, rfl⟩ rfl rfl rfl rfl rfl (by kernel_rfl) Tryd.func7 (by kernel_rfl)
    (of_decide_eq_true (by kernel_rfl)) (by unfold Func.isWrapper; first | (rw [if_pos (by decide +kernel)]; kernel_rfl) | (rw [if_neg (by decide +kernel)]; exact ⟨rfl, rfl⟩))
    (fun os started H enc _ => lifted os started H enc)
theorem proved : Rows.WaveLossesCardSaid :=
  Claim7.holds_tied_plain_at .later [] [.data] true (true, "a0ac937db1b87eb7c11dd0dc71315b0af60e3f8de940ef982570c982c7ff4971") false
    over (fun _ h => by cases h) (by kernel_rfl) (fun _ h => by cases h) waveLosses_row_tie rfl ⟨rfl, rfl⟩ (by kernel_rfl) rfl
    (fun f fn hf hfn => by
      obtain rfl : f = 7 := Option.some.inj ((show Tryd.prog.funcNamed "buchholz/buchholzlaw08.WaveLosses" = some 7 by kernel_rfl).symm.trans hf) |>.symm
      obtain rfl : fn = Tryd.f7 := (Option.some.inj (Tryd.func7.symm.trans hfn)).symm
      exact ⟨by kernel_rfl, fun j t ht => by
        have hall : (Tryd.f7.params.toList.all fun u => !Tryd.prog.wantsStandIn u) = true := by kernel_rfl
        have hm : t ∈ Tryd.f7.params.toList := by simpa using Array.mem_of_getElem? ht
        exact (show Tryd.prog.wantsStandIn t = false by simpa using List.all_eq_true.1 hall t hm)⟩)
    (by kernel_rfl)

end Go.Proofs.YtnamnocgjggnmaaDoor.waveLosses
