/- Parts of the proof, joined. -/
import Derived.Test.YtflcnhmckeiacaaGreatDoorSh
import Derived.Test.YtflcnhmckeiacaaGreatDoorFe
import Derived.Test.YtflcnhmckeiacaaGreatDoorWb
import Derived.Test.YtflcnhmckeiacaaGreatDoorM
import Derived.Test.YtflcnhmckeiacaaGreatDoorWa
namespace Go.Proofs.Tryz
open Go.Fw Go.IntWalk Go.Plain
set_option maxRecDepth 100000
set_option maxHeartbeats 8000000
theorem grow_sat (n : Int) (hn : 0 ≤ n ∧ n ≤ 1000) : SatN cx.P cx.gl 104 [(false, [.nil]), (false, [.st (J n)])] (.own 1 (.ints [])) :=
  grow_nil growI (by kernel_rfl) (i0 := t3) (z := .int .i64 0) (by kernel_rfl) (by kernel_rfl) (by kernel_rfl) (by kernel_rfl) (by kernel_rfl) n (by omega)
theorem concat_sat (a b : List Int) (ha : a.length ≤ 100) (hb : b.length ≤ 100) : Sat cx.P cx.gl 90 [(false, [.view [[.ints a], [.ints b]]])] (.own 1 (.ints (a ++ b))) := by
  refine Sat_of_awp (fn := f90) cx_ok (by kernel_rfl) (by kernel_rfl) rfl (by kernel_rfl) (Nat.le_of_ble_eq_true rfl) ?_
  repeat ((first | refine oP rfl ?_ | refine rP rfl (fun _ z => z) ?_ | (refine kO 6 rfl ?_; refine rLenv rfl rfl rfl rfl rfl rfl ?_) | refine oN ?_ | refine aS ?_ | refine aR ?_ | refine aB ?_ | refine aL ?_); (try conv => whnf))
  refine loop_round ?_
  repeat ((first | refine oP rfl ?_ | refine rP rfl (fun _ z => z) ?_ | (refine kO 1 rfl ?_; first | refine rAdd rfl rfl rfl (by omega) ?_ | refine rG (fun _ z => z) ?_) | (refine kO 3 rfl ?_; refine rLdr rfl rfl rfl rfl rfl ?_) | (refine kO 5 rfl ?_; refine rIdvN rfl rfl rfl rfl rfl rfl (by rfl) rfl ?_) | (refine kO 6 rfl ?_; refine rLen rfl rfl rfl rfl rfl rfl ?_) | refine oN ?_ | refine aS ?_ | refine aR ?_ | refine aK ?_ | refine aB ?_ | refine aC rfl ?_ | refine bT ?_ | refine bF ?_); (try conv => whnf))
  refine loop_round ?_
  repeat ((first | refine oP rfl ?_ | refine rP rfl (fun _ z => z) ?_ | (refine kO 1 rfl ?_; first | refine rAdd rfl rfl rfl (by omega) ?_ | refine rG (fun _ z => z) ?_) | (refine kO 3 rfl ?_; refine rLdr rfl rfl rfl rfl rfl ?_) | (refine kO 5 rfl ?_; refine rIdvN rfl rfl rfl rfl rfl rfl (by rfl) rfl ?_) | (refine kO 6 rfl ?_; refine rLen rfl rfl rfl rfl rfl rfl ?_) | refine oN ?_ | refine aS ?_ | refine aR ?_ | refine aK ?_ | refine aB ?_ | refine aC rfl ?_ | refine bT ?_ | refine bF ?_); (try conv => whnf))
  refine loop_round ?_
  have g := grow_sat (0 + (a.length : Int) + b.length) (by omega)
  repeat ((first | refine oP rfl ?_ | refine rP rfl (fun _ z => z) ?_ | (refine kO 1 rfl ?_; refine rG (fun _ z => z) ?_) | (refine kO 7 rfl ?_; refine rG (fun _ z => ⟨_, g, z⟩) ?_) | (refine kO 6 rfl ?_; refine rLenv rfl rfl rfl rfl rfl rfl ?_) | refine oN ?_ | refine aS ?_ | refine aR ?_ | refine aX ?_ | refine aB ?_ | refine aC rfl ?_ | refine bF ?_ | refine aL ?_); (try conv => whnf))
  refine loop_round ?_
  repeat ((first | refine oP rfl ?_ | refine rP rfl (fun _ z => z) ?_ | (refine kO 1 rfl ?_; first | refine rAdd rfl rfl rfl (by omega) ?_ | refine rG (fun _ z => z) ?_) | (refine kO 3 rfl ?_; refine rLdr rfl rfl rfl rfl rfl ?_) | (refine kO 5 rfl ?_; refine rIdvN rfl rfl rfl rfl rfl rfl (by rfl) rfl ?_) | refine oN ?_ | refine aS ?_ | refine aR ?_ | refine aK ?_ | refine aB ?_ | refine aC rfl ?_ | refine bT ?_ | refine rG (fun _ z => ⟨(by (rfl)), (by (exact lnN (by omega))), z⟩) ?_); (try conv => whnf))
  refine loop_round ?_
  repeat ((first | refine oP rfl ?_ | refine rP rfl (fun _ z => z) ?_ | (refine kO 1 rfl ?_; first | refine rAdd rfl rfl rfl (by omega) ?_ | refine rG (fun _ z => z) ?_) | (refine kO 3 rfl ?_; refine rLdr rfl rfl rfl rfl rfl ?_) | (refine kO 5 rfl ?_; refine rIdvN rfl rfl rfl rfl rfl rfl (by rfl) rfl ?_) | refine oN ?_ | refine aS ?_ | refine aR ?_ | refine aK ?_ | refine aB ?_ | refine aC rfl ?_ | refine bT ?_ | refine rG (fun _ z => ⟨(by (rfl)), (by (((try unfold SC.len); (try unfold SC.uni); (try unfold LIM); (try simp); (try omega); done))), z⟩) ?_); (try conv => whnf))
  refine loop_round ?_
  repeat ((first | refine oP rfl ?_ | refine rP rfl (fun _ z => z) ?_ | (refine kO 1 rfl ?_; refine rG (fun _ z => z) ?_) | refine oN ?_ | refine aS ?_ | refine aR ?_ | refine aX ?_ | refine aT ?_ | refine aC rfl ?_ | refine bF ?_); (try conv => whnf))
  (rfl)
end Go.Proofs.Tryz

namespace Go.Proofs.Tryz
open Go.Fw Go.IntWalk Go.Plain
set_option maxRecDepth 100000
set_option maxHeartbeats 8000000
theorem refResiduals_sat (a b : List Int) (hv : VW a b) : Sat cx.P cx.gl 113 [W2 a b] (.own 1 (.ints (residL a b a.length))) := by
  have hl := hv.len
  have hle := hv.le
  refine Sat_of_awp (fn := f113) cx_ok (by kernel_rfl) (by kernel_rfl) rfl (by kernel_rfl) (Nat.le_of_ble_eq_true rfl) ?_
  repeat ((first | refine oP rfl ?_ | refine rP rfl (fun _ z => z) ?_ | (refine kO 1 rfl ?_; first | refine rAdd rfl rfl rfl (by omega) ?_ | refine rSub rfl rfl rfl (by omega) ?_ | refine rMul rfl rfl rfl (by omega) ?_ | refine rQuo rfl rfl rfl (by omega) ?_ | refine rRem rfl rfl rfl (by omega) ?_ | refine rQuo' rfl rfl rfl (by omega) ?_ | refine rRem' rfl rfl rfl (by omega) ?_ | refine rG (fun _ z => z) ?_) | (refine kO 2 rfl ?_; first | refine rNeg rfl rfl (by omega) ?_ | refine rG (fun _ z => z) ?_) | (refine kO 3 rfl ?_; first | refine rLdr rfl rfl rfl rfl rfl ?_ | refine rLdb rfl rfl rfl rfl rfl rfl rfl ?_ | refine rLdi rfl rfl rfl rfl rfl rfl (by first | omega | decide | exact Nat.le_of_ble_eq_true rfl | (dsimp only [SC.len]; omega) | (simp; done) | (simp; omega) | omega) ?_ | refine rG (fun _ z => z) ?_ | refine rG (fun _ z => ⟨_, rfl, z⟩) ?_ | refine rG (fun _ z => ⟨_, (by assumption), z⟩) ?_) | (refine kO 4 rfl ?_; first | refine rSti rfl rfl rfl rfl rfl rfl (by first | omega | decide | exact Nat.le_of_ble_eq_true rfl | (dsimp only [SC.len]; omega) | (simp; done) | (simp; omega) | omega) ?_ | refine rG (fun _ z => z) ?_) | (refine kO 5 rfl ?_; first | refine rIdN rfl rfl rfl rfl rfl rfl rfl (by first | omega | decide | exact Nat.le_of_ble_eq_true rfl | (dsimp only [SC.len]; omega) | (simp; done) | (simp; omega) | omega) ?_ | refine rIdx rfl rfl rfl rfl rfl rfl rfl (by first | omega | decide | exact Nat.le_of_ble_eq_true rfl | (dsimp only [SC.len]; omega) | (simp; done) | (simp; omega) | omega) ?_ | refine rIdoN rfl rfl rfl rfl rfl rfl rfl rfl (by first | omega | decide | exact Nat.le_of_ble_eq_true rfl | (dsimp only [SC.len]; omega) | (simp; done) | (simp; omega) | omega) ?_ | refine rIdo rfl rfl rfl rfl rfl rfl rfl rfl (by first | omega | decide | exact Nat.le_of_ble_eq_true rfl | (dsimp only [SC.len]; omega) | (simp; done) | (simp; omega) | omega) ?_ | refine rIdvN rfl rfl rfl rfl rfl rfl (by first | assumption | rfl) rfl ?_) | (refine kO 6 rfl ?_; first | refine rLen rfl rfl rfl rfl rfl rfl ?_ | refine rLenv rfl rfl rfl rfl rfl rfl ?_ | refine rLeno rfl rfl rfl rfl rfl rfl rfl ?_ | refine rLenov rfl rfl rfl rfl rfl rfl rfl ?_ | refine rG (fun _ z => z) ?_) | (refine kO 8 rfl ?_; first | refine rSlH rfl rfl rfl rfl rfl rfl rfl (by omega) ?_ | refine rSlL rfl rfl rfl rfl rfl rfl rfl (by omega) ?_ | refine rG (fun _ z => z) ?_) | refine oN ?_ | refine aS ?_ | refine aR ?_ | refine aK ?_ | refine aX ?_ | refine aB ?_ | refine aT ?_ | refine aC rfl ?_ | refine bT ?_ | refine bF ?_ | refine bPt (by omega) ?_ | refine bPf (by omega) ?_ | refine aL ?_ | refine aE ?_ | refine oY rfl rfl rfl ?_ | refine oZ rfl rfl rfl ?_ | refine oO rfl rfl rfl ?_ | refine oIt rfl rfl rfl (by omega) ?_ | refine oIf rfl rfl rfl (by omega) ?_ | refine oUt rfl rfl rfl (by omega) ?_ | refine oUf rfl rfl rfl (by omega) ?_ | refine dI (by kernel_rfl) ?_ | refine rG (fun _ z => ⟨(by (first | omega | decide | rfl | exact lnS (by omega) | exact lnN (by decide) | exact lnN (by omega) | exact lnC (by omega) | exact lvS (by omega) | exact lvN (by decide) | exact lvC (by omega) | exact uvS rfl | exact uvN rfl | ((try unfold SC.len); (try unfold SC.uni); (try unfold LIM); (try simp); (try omega); done) | omega)), z⟩) ?_ | refine rG (fun _ z => ⟨(by (first | omega | decide | rfl | exact lnS (by omega) | exact lnN (by decide) | exact lnN (by omega) | exact lnC (by omega) | exact lvS (by omega) | exact lvN (by decide) | exact lvC (by omega) | exact uvS rfl | exact uvN rfl | ((try unfold SC.len); (try unfold SC.uni); (try unfold LIM); (try simp); (try omega); done) | omega)), (by (first | omega | decide | rfl | exact lnS (by omega) | exact lnN (by decide) | exact lnN (by omega) | exact lnC (by omega) | exact lvS (by omega) | exact lvN (by decide) | exact lvC (by omega) | exact uvS rfl | exact uvN rfl | ((try unfold SC.len); (try unfold SC.uni); (try unfold LIM); (try simp); (try omega); done) | omega)), z⟩) ?_); (try conv => whnf))
  refine loop_ind (ι := Nat) (fun i => i ≤ a.length) (fun i => a.length - i) (fun i => ⟨[(1, pP 0), (3, pO 1), (4, vI i)], [(0, some (.box 35 [.st (.ints a), .st (.ints b)])), (1, some (.row true 1 (.ints (residL a b i))))], 2⟩) 0 (canon_auto (by kernel_rfl)) (Nat.zero_le _) ?_
  intro i hi
  have b1 := hv.rs_bound i
  have b2 := hv.rs_bound (i + 1)
  have b3 := hv.a_bound i
  have b4 := hv.b_bound i
  have b5 := residL_len a b i
  have b6 := residL_getD (a := a) (b := b) (Nat.le_refl i)
  repeat ((first | refine oP rfl ?_ | refine rP rfl (fun _ z => z) ?_ | (refine kO 1 rfl ?_; first | refine rAdd rfl rfl rfl (by omega) ?_ | refine rSub rfl rfl rfl (by omega) ?_ | refine rMul rfl rfl rfl (by omega) ?_ | refine rQuo rfl rfl rfl (by omega) ?_ | refine rRem rfl rfl rfl (by omega) ?_ | refine rQuo' rfl rfl rfl (by omega) ?_ | refine rRem' rfl rfl rfl (by omega) ?_ | refine rG (fun _ z => z) ?_) | (refine kO 2 rfl ?_; first | refine rNeg rfl rfl (by omega) ?_ | refine rG (fun _ z => z) ?_) | (refine kO 3 rfl ?_; first | refine rLdr rfl rfl rfl rfl rfl ?_ | refine rLdb rfl rfl rfl rfl rfl rfl rfl ?_ | refine rLdi rfl rfl rfl rfl rfl rfl (by first | omega | decide | exact Nat.le_of_ble_eq_true rfl | (dsimp only [SC.len]; omega) | (simp; done) | (simp; omega) | omega) ?_ | refine rG (fun _ z => z) ?_ | refine rG (fun _ z => ⟨_, rfl, z⟩) ?_ | refine rG (fun _ z => ⟨_, (by assumption), z⟩) ?_) | (refine kO 4 rfl ?_; first | refine rSti rfl rfl rfl rfl rfl rfl (by first | omega | decide | exact Nat.le_of_ble_eq_true rfl | (dsimp only [SC.len]; omega) | (simp; done) | (simp; omega) | omega) ?_ | refine rG (fun _ z => z) ?_) | (refine kO 5 rfl ?_; first | refine rIdN rfl rfl rfl rfl rfl rfl rfl (by first | omega | decide | exact Nat.le_of_ble_eq_true rfl | (dsimp only [SC.len]; omega) | (simp; done) | (simp; omega) | omega) ?_ | refine rIdx rfl rfl rfl rfl rfl rfl rfl (by first | omega | decide | exact Nat.le_of_ble_eq_true rfl | (dsimp only [SC.len]; omega) | (simp; done) | (simp; omega) | omega) ?_ | refine rIdoN rfl rfl rfl rfl rfl rfl rfl rfl (by first | omega | decide | exact Nat.le_of_ble_eq_true rfl | (dsimp only [SC.len]; omega) | (simp; done) | (simp; omega) | omega) ?_ | refine rIdo rfl rfl rfl rfl rfl rfl rfl rfl (by first | omega | decide | exact Nat.le_of_ble_eq_true rfl | (dsimp only [SC.len]; omega) | (simp; done) | (simp; omega) | omega) ?_ | refine rIdvN rfl rfl rfl rfl rfl rfl (by first | assumption | rfl) rfl ?_) | (refine kO 6 rfl ?_; first | refine rLen rfl rfl rfl rfl rfl rfl ?_ | refine rLenv rfl rfl rfl rfl rfl rfl ?_ | refine rLeno rfl rfl rfl rfl rfl rfl rfl ?_ | refine rLenov rfl rfl rfl rfl rfl rfl rfl ?_ | refine rG (fun _ z => z) ?_) | (refine kO 8 rfl ?_; first | refine rSlH rfl rfl rfl rfl rfl rfl rfl (by omega) ?_ | refine rSlL rfl rfl rfl rfl rfl rfl rfl (by omega) ?_ | refine rG (fun _ z => z) ?_) | refine oN ?_ | refine aS ?_ | refine aR ?_ | refine aK ?_ | refine aX ?_ | refine aB ?_ | refine aT ?_ | refine aC rfl ?_ | refine bT ?_ | refine bF ?_ | refine bPt (by omega) ?_ | refine bPf (by omega) ?_ | refine aL ?_ | refine aE ?_ | refine oY rfl rfl rfl ?_ | refine oZ rfl rfl rfl ?_ | refine oO rfl rfl rfl ?_ | refine oIt rfl rfl rfl (by omega) ?_ | refine oIf rfl rfl rfl (by omega) ?_ | refine oUt rfl rfl rfl (by omega) ?_ | refine oUf rfl rfl rfl (by omega) ?_ | refine dI (by kernel_rfl) ?_ | refine rG (fun _ z => ⟨(by (first | omega | decide | rfl | exact lnS (by omega) | exact lnN (by decide) | exact lnN (by omega) | exact lnC (by omega) | exact lvS (by omega) | exact lvN (by decide) | exact lvC (by omega) | exact uvS rfl | exact uvN rfl | ((try unfold SC.len); (try unfold SC.uni); (try unfold LIM); (try simp); (try omega); done) | omega)), z⟩) ?_ | refine rG (fun _ z => ⟨(by (first | omega | decide | rfl | exact lnS (by omega) | exact lnN (by decide) | exact lnN (by omega) | exact lnC (by omega) | exact lvS (by omega) | exact lvN (by decide) | exact lvC (by omega) | exact uvS rfl | exact uvN rfl | ((try unfold SC.len); (try unfold SC.uni); (try unfold LIM); (try simp); (try omega); done) | omega)), (by (first | omega | decide | rfl | exact lnS (by omega) | exact lnN (by decide) | exact lnN (by omega) | exact lnC (by omega) | exact lvS (by omega) | exact lvN (by decide) | exact lvC (by omega) | exact uvS rfl | exact uvN rfl | ((try unfold SC.len); (try unfold SC.uni); (try unfold LIM); (try simp); (try omega); done) | omega)), z⟩) ?_); (try conv => whnf))
  ((first | refine brp (fun h => ?_) (fun h => ?_) | refine opsA_ifp rfl rfl rfl (fun h => ?_) (fun h => ?_) | refine opsA_unlessp rfl rfl rfl (fun h => ?_) (fun h => ?_)) <;> (try conv => whnf))
  · have hlt : i < a.length := by omega
    have b7 := rs_succ hlt hl
    repeat ((first | refine oP rfl ?_ | refine rP rfl (fun _ z => z) ?_ | (refine kO 1 rfl ?_; first | refine rAdd rfl rfl rfl (by omega) ?_ | refine rSub rfl rfl rfl (by omega) ?_ | refine rMul rfl rfl rfl (by omega) ?_ | refine rQuo rfl rfl rfl (by omega) ?_ | refine rRem rfl rfl rfl (by omega) ?_ | refine rQuo' rfl rfl rfl (by omega) ?_ | refine rRem' rfl rfl rfl (by omega) ?_ | refine rG (fun _ z => z) ?_) | (refine kO 2 rfl ?_; first | refine rNeg rfl rfl (by omega) ?_ | refine rG (fun _ z => z) ?_) | (refine kO 3 rfl ?_; first | refine rLdr rfl rfl rfl rfl rfl ?_ | refine rLdb rfl rfl rfl rfl rfl rfl rfl ?_ | refine rLdi rfl rfl rfl rfl rfl rfl (by first | omega | decide | exact Nat.le_of_ble_eq_true rfl | (dsimp only [SC.len]; omega) | (simp; done) | (simp; omega) | omega) ?_ | refine rG (fun _ z => z) ?_ | refine rG (fun _ z => ⟨_, rfl, z⟩) ?_ | refine rG (fun _ z => ⟨_, (by assumption), z⟩) ?_) | (refine kO 4 rfl ?_; first | refine rSti rfl rfl rfl rfl rfl rfl (by first | omega | decide | exact Nat.le_of_ble_eq_true rfl | (dsimp only [SC.len]; omega) | (simp; done) | (simp; omega) | omega) ?_ | refine rG (fun _ z => z) ?_) | (refine kO 5 rfl ?_; first | refine rIdN rfl rfl rfl rfl rfl rfl rfl (by first | omega | decide | exact Nat.le_of_ble_eq_true rfl | (dsimp only [SC.len]; omega) | (simp; done) | (simp; omega) | omega) ?_ | refine rIdx rfl rfl rfl rfl rfl rfl rfl (by first | omega | decide | exact Nat.le_of_ble_eq_true rfl | (dsimp only [SC.len]; omega) | (simp; done) | (simp; omega) | omega) ?_ | refine rIdoN rfl rfl rfl rfl rfl rfl rfl rfl (by first | omega | decide | exact Nat.le_of_ble_eq_true rfl | (dsimp only [SC.len]; omega) | (simp; done) | (simp; omega) | omega) ?_ | refine rIdo rfl rfl rfl rfl rfl rfl rfl rfl (by first | omega | decide | exact Nat.le_of_ble_eq_true rfl | (dsimp only [SC.len]; omega) | (simp; done) | (simp; omega) | omega) ?_ | refine rIdvN rfl rfl rfl rfl rfl rfl (by first | assumption | rfl) rfl ?_) | (refine kO 6 rfl ?_; first | refine rLen rfl rfl rfl rfl rfl rfl ?_ | refine rLenv rfl rfl rfl rfl rfl rfl ?_ | refine rLeno rfl rfl rfl rfl rfl rfl rfl ?_ | refine rLenov rfl rfl rfl rfl rfl rfl rfl ?_ | refine rG (fun _ z => z) ?_) | (refine kO 8 rfl ?_; first | refine rSlH rfl rfl rfl rfl rfl rfl rfl (by omega) ?_ | refine rSlL rfl rfl rfl rfl rfl rfl rfl (by omega) ?_ | refine rG (fun _ z => z) ?_) | refine oN ?_ | refine aS ?_ | refine aR ?_ | refine aK ?_ | refine aX ?_ | refine aB ?_ | refine aT ?_ | refine aC rfl ?_ | refine bT ?_ | refine bF ?_ | refine bPt (by omega) ?_ | refine bPf (by omega) ?_ | refine aL ?_ | refine aE ?_ | refine oY rfl rfl rfl ?_ | refine oZ rfl rfl rfl ?_ | refine oO rfl rfl rfl ?_ | refine oIt rfl rfl rfl (by omega) ?_ | refine oIf rfl rfl rfl (by omega) ?_ | refine oUt rfl rfl rfl (by omega) ?_ | refine oUf rfl rfl rfl (by omega) ?_ | refine dI (by kernel_rfl) ?_ | refine rG (fun _ z => ⟨(by (first | omega | decide | rfl | exact lnS (by omega) | exact lnN (by decide) | exact lnN (by omega) | exact lnC (by omega) | exact lvS (by omega) | exact lvN (by decide) | exact lvC (by omega) | exact uvS rfl | exact uvN rfl | ((try unfold SC.len); (try unfold SC.uni); (try unfold LIM); (try simp); (try omega); done) | omega)), z⟩) ?_ | refine rG (fun _ z => ⟨(by (first | omega | decide | rfl | exact lnS (by omega) | exact lnN (by decide) | exact lnN (by omega) | exact lnC (by omega) | exact lvS (by omega) | exact lvN (by decide) | exact lvC (by omega) | exact uvS rfl | exact uvN rfl | ((try unfold SC.len); (try unfold SC.uni); (try unfold LIM); (try simp); (try omega); done) | omega)), (by (first | omega | decide | rfl | exact lnS (by omega) | exact lnN (by decide) | exact lnN (by omega) | exact lnC (by omega) | exact lvS (by omega) | exact lvN (by decide) | exact lvC (by omega) | exact uvS rfl | exact uvN rfl | ((try unfold SC.len); (try unfold SC.uni); (try unfold LIM); (try simp); (try omega); done) | omega)), z⟩) ?_); (try conv => whnf))
    rw [b6, ← b7, ← residL_succ]
    exact ⟨i + 1, hlt, by omega, canon_auto (by kernel_rfl)⟩
  · repeat ((first | refine oP rfl ?_ | refine rP rfl (fun _ z => z) ?_ | (refine kO 1 rfl ?_; first | refine rAdd rfl rfl rfl (by omega) ?_ | refine rSub rfl rfl rfl (by omega) ?_ | refine rMul rfl rfl rfl (by omega) ?_ | refine rQuo rfl rfl rfl (by omega) ?_ | refine rRem rfl rfl rfl (by omega) ?_ | refine rQuo' rfl rfl rfl (by omega) ?_ | refine rRem' rfl rfl rfl (by omega) ?_ | refine rG (fun _ z => z) ?_) | (refine kO 2 rfl ?_; first | refine rNeg rfl rfl (by omega) ?_ | refine rG (fun _ z => z) ?_) | (refine kO 3 rfl ?_; first | refine rLdr rfl rfl rfl rfl rfl ?_ | refine rLdb rfl rfl rfl rfl rfl rfl rfl ?_ | refine rLdi rfl rfl rfl rfl rfl rfl (by first | omega | decide | exact Nat.le_of_ble_eq_true rfl | (dsimp only [SC.len]; omega) | (simp; done) | (simp; omega) | omega) ?_ | refine rG (fun _ z => z) ?_ | refine rG (fun _ z => ⟨_, rfl, z⟩) ?_ | refine rG (fun _ z => ⟨_, (by assumption), z⟩) ?_) | (refine kO 4 rfl ?_; first | refine rSti rfl rfl rfl rfl rfl rfl (by first | omega | decide | exact Nat.le_of_ble_eq_true rfl | (dsimp only [SC.len]; omega) | (simp; done) | (simp; omega) | omega) ?_ | refine rG (fun _ z => z) ?_) | (refine kO 5 rfl ?_; first | refine rIdN rfl rfl rfl rfl rfl rfl rfl (by first | omega | decide | exact Nat.le_of_ble_eq_true rfl | (dsimp only [SC.len]; omega) | (simp; done) | (simp; omega) | omega) ?_ | refine rIdx rfl rfl rfl rfl rfl rfl rfl (by first | omega | decide | exact Nat.le_of_ble_eq_true rfl | (dsimp only [SC.len]; omega) | (simp; done) | (simp; omega) | omega) ?_ | refine rIdoN rfl rfl rfl rfl rfl rfl rfl rfl (by first | omega | decide | exact Nat.le_of_ble_eq_true rfl | (dsimp only [SC.len]; omega) | (simp; done) | (simp; omega) | omega) ?_ | refine rIdo rfl rfl rfl rfl rfl rfl rfl rfl (by first | omega | decide | exact Nat.le_of_ble_eq_true rfl | (dsimp only [SC.len]; omega) | (simp; done) | (simp; omega) | omega) ?_ | refine rIdvN rfl rfl rfl rfl rfl rfl (by first | assumption | rfl) rfl ?_) | (refine kO 6 rfl ?_; first | refine rLen rfl rfl rfl rfl rfl rfl ?_ | refine rLenv rfl rfl rfl rfl rfl rfl ?_ | refine rLeno rfl rfl rfl rfl rfl rfl rfl ?_ | refine rLenov rfl rfl rfl rfl rfl rfl rfl ?_ | refine rG (fun _ z => z) ?_) | (refine kO 8 rfl ?_; first | refine rSlH rfl rfl rfl rfl rfl rfl rfl (by omega) ?_ | refine rSlL rfl rfl rfl rfl rfl rfl rfl (by omega) ?_ | refine rG (fun _ z => z) ?_) | refine oN ?_ | refine aS ?_ | refine aR ?_ | refine aK ?_ | refine aX ?_ | refine aB ?_ | refine aT ?_ | refine aC rfl ?_ | refine bT ?_ | refine bF ?_ | refine bPt (by omega) ?_ | refine bPf (by omega) ?_ | refine aL ?_ | refine aE ?_ | refine oY rfl rfl rfl ?_ | refine oZ rfl rfl rfl ?_ | refine oO rfl rfl rfl ?_ | refine oIt rfl rfl rfl (by omega) ?_ | refine oIf rfl rfl rfl (by omega) ?_ | refine oUt rfl rfl rfl (by omega) ?_ | refine oUf rfl rfl rfl (by omega) ?_ | refine dI (by kernel_rfl) ?_ | refine rG (fun _ z => ⟨(by (first | omega | decide | rfl | exact lnS (by omega) | exact lnN (by decide) | exact lnN (by omega) | exact lnC (by omega) | exact lvS (by omega) | exact lvN (by decide) | exact lvC (by omega) | exact uvS rfl | exact uvN rfl | ((try unfold SC.len); (try unfold SC.uni); (try unfold LIM); (try simp); (try omega); done) | omega)), z⟩) ?_ | refine rG (fun _ z => ⟨(by (first | omega | decide | rfl | exact lnS (by omega) | exact lnN (by decide) | exact lnN (by omega) | exact lnC (by omega) | exact lvS (by omega) | exact lvN (by decide) | exact lvC (by omega) | exact uvS rfl | exact uvN rfl | ((try unfold SC.len); (try unfold SC.uni); (try unfold LIM); (try simp); (try omega); done) | omega)), (by (first | omega | decide | rfl | exact lnS (by omega) | exact lnN (by decide) | exact lnN (by omega) | exact lnC (by omega) | exact lvS (by omega) | exact lvN (by decide) | exact lvC (by omega) | exact uvS rfl | exact uvN rfl | ((try unfold SC.len); (try unfold SC.uni); (try unfold LIM); (try simp); (try omega); done) | omega)), z⟩) ?_); (try conv => whnf))
    rw [show i = a.length by omega]
end Go.Proofs.Tryz

namespace Go.Proofs.Tryz
open Go.Fw Go.IntWalk Go.Plain
set_option maxRecDepth 100000
set_option maxHeartbeats 8000000
abbrev zr (n : Int) : List Int := List.replicate n.toNat 0
def shI (a : List Int) (n : Int) : List Int := if 0 ≤ n then a ++ zr n else zr (-n) ++ a
def shO (b : List Int) (n : Int) : List Int := if 0 ≤ n then zr n ++ b else b ++ zr (-n)
abbrev absI (n : Int) : Int := if -n > n then -n else n
theorem size_p (n : Int) (h : -1000000 ≤ n ∧ n ≤ 1000000) : Sat cx.P cx.gl 62 [I n] (.one (I (absI n))) := by
  refine Sat_of_awp (fn := f62) cx_ok (by kernel_rfl) (by kernel_rfl) rfl (by kernel_rfl) (Nat.le_of_ble_eq_true rfl) ?_
  repeat ((first | refine oP rfl ?_ | refine rP rfl (fun _ z => z) ?_ | (refine kO 2 rfl ?_; refine rNeg rfl rfl (by omega) ?_) | (refine kO 6 rfl ?_; refine rG (fun _ z => z) ?_) | refine oN ?_ | refine aS ?_ | refine aR ?_ | refine aT ?_); (try conv => whnf))
  (done)
theorem bSize_p (n : Int) (h : -1000000 ≤ n ∧ n ≤ 1000000) : Sat cx.P cx.gl 79 [I n] (.one (I (absI n))) := by
  by_cases h0 : 0 ≤ n
  · refine Sat_of_awp (fn := f79) cx_ok (by kernel_rfl) (by kernel_rfl) rfl (by kernel_rfl) (Nat.le_of_ble_eq_true rfl) ?_
    repeat' ((first | refine oP rfl ?_ | refine rP rfl (fun _ z => z) ?_ | (refine kO 2 rfl ?_; refine rNeg rfl rfl (by omega) ?_) | (refine kO 6 rfl ?_; refine rG (fun _ z => z) ?_) | refine oN ?_ | refine aS ?_ | refine aR ?_ | refine aT ?_) <;> (try conv => whnf))
    all_goals fail
  · refine Sat_of_awp (fn := f79) cx_ok (by kernel_rfl) (by kernel_rfl) rfl (by kernel_rfl) (Nat.le_of_ble_eq_true rfl) ?_
    repeat' ((first | refine oP rfl ?_ | refine rP rfl (fun _ z => z) ?_ | (refine kO 2 rfl ?_; refine rNeg rfl rfl (by omega) ?_) | (refine kO 6 rfl ?_; refine rG (fun _ z => z) ?_) | refine oN ?_ | refine aS ?_ | refine aR ?_ | refine aT ?_) <;> (try conv => whnf))
    all_goals fail
theorem shifted_sat (a b : List Int) (n : Int) (ha : a.length ≤ 20) (hb : b.length ≤ 20) (hn : -3 ≤ n ∧ n ≤ 3) : Sat cx.P cx.gl 65 [W2 a b, I n] (.one (W2 (shI a n) (shO b n))) := by
  unfold shI shO
  by_cases h0 : 0 ≤ n
  · have e : absI n = n := by unfold absI; rw [if_neg (by omega)]
    have g := size_p n (by omega)
    rw [e] at g
    have hz : (List.replicate n.toNat (0 : Int)).length = n.toNat := List.length_replicate
    have c1 := concat_sat a (zr n) (by omega) (by rw [hz]; omega)
    have c2 := concat_sat (zr n) b (by rw [hz]; omega) (by omega)
    rw [if_pos h0, if_pos h0]
    refine Sat_of_awp (fn := f65) cx_ok (by kernel_rfl) (by kernel_rfl) rfl (by kernel_rfl) (Nat.le_of_ble_eq_true rfl) ?_
    refine aS ?_; (refine aR ?_; conv => whnf); repeat ((first | refine oP rfl ?_ | refine rP rfl (fun _ z => z) ?_ | refine oN ?_); (try conv => whnf))
    refine awp_seqw ?_; (refine aR ?_; conv => whnf); repeat ((first | refine oP rfl ?_ | refine rP rfl (fun _ z => z) ?_ | (refine kO 7 rfl ?_; refine rG (fun _ z => ⟨_, g, z⟩) ?_) | refine oN ?_ | refine rG (fun _ z => ⟨(by (((try unfold SC.len); (try unfold SC.uni); (try unfold LIM); (try simp); (try omega); done))), z⟩) ?_); (try conv => whnf))
    refine ⟨_, freeze_sub 4 rfl, ?_⟩
    repeat ((first | refine oP rfl ?_ | refine rP rfl (fun _ z => z) ?_ | (refine kO 1 rfl ?_; refine rG (fun _ z => z) ?_) | (refine kO 3 rfl ?_; refine rLdb rfl rfl rfl rfl rfl rfl rfl ?_) | (refine kO 4 rfl ?_; refine rG (fun _ z => z) ?_) | (refine kO 7 rfl ?_; first | refine rG (fun _ z => ⟨_, c1, z⟩) ?_ | refine rG (fun _ z => ⟨_, c2, z⟩) ?_) | refine oN ?_ | refine aS ?_ | refine aR ?_ | refine aT ?_ | refine aC rfl ?_ | refine bPt (by omega) ?_ | refine dI (by kernel_rfl) ?_); (try conv => whnf))
    (rfl)
  · have e : absI n = -n := by unfold absI; rw [if_pos (by omega)]
    have g := size_p n (by omega)
    rw [e] at g
    have hz : (List.replicate (-n).toNat (0 : Int)).length = (-n).toNat := List.length_replicate
    have c1 := concat_sat (zr (-n)) a (by rw [hz]; omega) (by omega)
    have c2 := concat_sat b (zr (-n)) (by omega) (by rw [hz]; omega)
    rw [if_neg h0, if_neg h0]
    refine Sat_of_awp (fn := f65) cx_ok (by kernel_rfl) (by kernel_rfl) rfl (by kernel_rfl) (Nat.le_of_ble_eq_true rfl) ?_
    refine aS ?_; (refine aR ?_; conv => whnf); repeat ((first | refine oP rfl ?_ | refine rP rfl (fun _ z => z) ?_ | refine oN ?_); (try conv => whnf))
    refine awp_seqw ?_; (refine aR ?_; conv => whnf); repeat ((first | refine oP rfl ?_ | refine rP rfl (fun _ z => z) ?_ | (refine kO 7 rfl ?_; refine rG (fun _ z => ⟨_, g, z⟩) ?_) | refine oN ?_ | refine rG (fun _ z => ⟨(by (((try unfold SC.len); (try unfold SC.uni); (try unfold LIM); (try simp); (try omega); done))), z⟩) ?_); (try conv => whnf))
    refine ⟨_, freeze_sub 4 rfl, ?_⟩
    repeat ((first | refine oP rfl ?_ | refine rP rfl (fun _ z => z) ?_ | (refine kO 1 rfl ?_; refine rG (fun _ z => z) ?_) | (refine kO 3 rfl ?_; refine rLdb rfl rfl rfl rfl rfl rfl rfl ?_) | (refine kO 4 rfl ?_; refine rG (fun _ z => z) ?_) | (refine kO 7 rfl ?_; first | refine rG (fun _ z => ⟨_, c1, z⟩) ?_ | refine rG (fun _ z => ⟨_, c2, z⟩) ?_) | refine oN ?_ | refine aS ?_ | refine aR ?_ | refine aK ?_ | refine aT ?_ | refine aC rfl ?_ | refine bPf (by omega) ?_ | refine dI (by kernel_rfl) ?_); (try conv => whnf))
    (rfl)
/-- What is wrong with a shift of a valid window. -/
def shErr0 (a : List Int) (n : Int) : Int := if -3 ≤ n ∧ n ≤ 3 then (if (a.length : Int) + absI n > 15 then 8 else 0) else 2
def shErr (a b : List Int) (n : Int) : Int := if windowErr a b ≠ 0 then windowErr a b else shErr0 a n
theorem refShifted_sat (a b : List Int) (n : Int) (ha : a.length ≤ 100) (hb : b.length ≤ 100) (hn : -3 ≤ n ∧ n ≤ 3) : Sat cx.P cx.gl 49 [W2 a b, I n] (.one (W2 (shI a n) (shO b n))) := by
  have g1 := copyInts_sat a (by omega)
  have g2 := copyInts_sat b (by omega)
  unfold shI shO
  by_cases h0 : 0 ≤ n
  · rw [if_pos h0, if_pos h0]
    have hz : (List.replicate n.toNat (0 : Int)).length = n.toNat := List.length_replicate
    refine Sat_of_awp (fn := f49) cx_ok (by kernel_rfl) (by kernel_rfl) rfl (by kernel_rfl) (Nat.le_of_ble_eq_true rfl) ?_
    repeat ((first | refine oP rfl ?_ | refine rP rfl (fun _ z => z) ?_ | (refine kO 1 rfl ?_; refine rG (fun _ z => z) ?_) | (refine kO 3 rfl ?_; refine rLdb rfl rfl rfl rfl rfl rfl rfl ?_) | (refine kO 4 rfl ?_; refine rG (fun _ z => z) ?_) | (refine kO 7 rfl ?_; first | refine rG (fun _ z => ⟨_, g1, z⟩) ?_ | refine rG (fun _ z => ⟨_, g2, z⟩) ?_) | refine oN ?_ | refine aS ?_ | refine aR ?_ | refine aT ?_ | refine aC rfl ?_ | refine bPt (by omega) ?_ | refine dI (by kernel_rfl) ?_ | refine rG (fun _ z => ⟨(by (((try unfold SC.len); (try unfold SC.uni); (try unfold LIM); (try simp); (try omega); done))), z⟩) ?_ | refine rG (fun _ z => ⟨(by (first | rfl | ((try unfold SC.len); (try unfold SC.uni); (try unfold LIM); (try simp); (try omega); done))), (by (exact lnC (by omega))), z⟩) ?_); (try conv => whnf))
    (rfl)
  · rw [if_neg h0, if_neg h0]
    have hz : (List.replicate (-n).toNat (0 : Int)).length = (-n).toNat := List.length_replicate
    refine Sat_of_awp (fn := f49) cx_ok (by kernel_rfl) (by kernel_rfl) rfl (by kernel_rfl) (Nat.le_of_ble_eq_true rfl) ?_
    repeat ((first | refine oP rfl ?_ | refine rP rfl (fun _ z => z) ?_ | (refine kO 1 rfl ?_; refine rG (fun _ z => z) ?_) | (refine kO 2 rfl ?_; refine rNeg rfl rfl (by omega) ?_) | (refine kO 3 rfl ?_; refine rLdb rfl rfl rfl rfl rfl rfl rfl ?_) | (refine kO 4 rfl ?_; refine rG (fun _ z => z) ?_) | (refine kO 7 rfl ?_; first | refine rG (fun _ z => ⟨_, g1, z⟩) ?_ | refine rG (fun _ z => ⟨_, g2, z⟩) ?_) | refine oN ?_ | refine aS ?_ | refine aR ?_ | refine aK ?_ | refine aT ?_ | refine aC rfl ?_ | refine bPf (by omega) ?_ | refine dI (by kernel_rfl) ?_ | refine rG (fun _ z => ⟨(by (((try unfold SC.len); (try unfold SC.uni); (try unfold LIM); (try simp); (try omega); done))), z⟩) ?_ | refine rG (fun _ z => ⟨(by (first | rfl | ((try unfold SC.len); (try unfold SC.uni); (try unfold LIM); (try simp); (try omega); done))), (by (exact lnC (by omega))), z⟩) ?_); (try conv => whnf))
    (rfl)
end Go.Proofs.Tryz

namespace Go.Proofs.Tryz
open Go.Fw Go.IntWalk Go.Plain
theorem zr_sum (n : Int) : (zr n).sum = 0 := by
  show (List.replicate n.toNat (0 : Int)).sum = 0
  generalize n.toNat = k
  induction k with
  | zero => rfl
  | succ k ih => rw [List.replicate_succ, List.sum_cons, ih]; rfl
theorem zr_mem {n x : Int} (h : x ∈ zr n) : x = 0 := (List.mem_replicate.1 h).2
theorem VW.shift {a b : List Int} {n : Int} (h : VW a b) (h0 : shErr0 a n = 0) : VW (shI a n) (shO b n) := by
  have hn : -3 ≤ n ∧ n ≤ 3 := by
    unfold shErr0 at h0
    split at h0
    · assumption
    · omega
  have hl : (a.length : Int) + absI n ≤ 15 := by
    unfold shErr0 at h0
    rw [if_pos hn] at h0
    split at h0 <;> omega
  have k1 := h.len
  have k2 := h.pos
  have s := h.sum
  unfold shI shO
  by_cases hp : 0 ≤ n
  · rw [if_pos hp, if_pos hp]
    have : absI n = n := by unfold absI; rw [if_neg (by omega)]
    refine ⟨by simp; omega, by simp; omega, by simp; omega, fun x hx => ?_, fun x hx => ?_, by rw [List.sum_append, List.sum_append, zr_sum]; omega⟩
    · rcases List.mem_append.1 hx with hx | hx
      · exact h.ra x hx
      · have := zr_mem hx; omega
    · rcases List.mem_append.1 hx with hx | hx
      · have := zr_mem hx; omega
      · exact h.rb x hx
  · rw [if_neg hp, if_neg hp]
    have : absI n = -n := by unfold absI; rw [if_pos (by omega)]
    refine ⟨by simp; omega, by simp; omega, by simp; omega, fun x hx => ?_, fun x hx => ?_, by rw [List.sum_append, List.sum_append, zr_sum]; omega⟩
    · rcases List.mem_append.1 hx with hx | hx
      · have := zr_mem hx; omega
      · exact h.ra x hx
    · rcases List.mem_append.1 hx with hx | hx
      · exact h.rb x hx
      · have := zr_mem hx; omega
end Go.Proofs.Tryz

namespace Go.Proofs.Tryz
open Go.Fw Go.IntWalk Go.Plain
set_option maxRecDepth 100000
set_option maxHeartbeats 8000000
def unitV (a b : List Int) (k : Int) : Int := unL (kindL a b k)
theorem isKind_sat (k : Int) : Sat cx.P cx.gl 64 [I k] (.one (Bo (decide (0 ≤ k) && decide (k ≤ 3)))) := by
  refine Sat_of_awp (fn := f64) cx_ok (by kernel_rfl) (by kernel_rfl) rfl (by kernel_rfl) (Nat.le_of_ble_eq_true rfl) ?_
  repeat' ((first | refine oP rfl ?_ | refine rP rfl (fun _ z => z) ?_ | (refine kO 7 rfl ?_; refine rG (fun _ z => ⟨_, within52_sat _ _ _, z⟩) ?_) | refine oN ?_ | refine aS ?_ | refine aR ?_ | refine aT ?_) <;> (try conv => whnf))
  rfl
theorem unit0_sat (a b A B X Y : List Int) (hs : Sat cx.P cx.gl 55 [W2 a b] (.one (W2 A B))) (hr : Sat cx.P cx.gl 135 [W2 a b] (.one (W2 X Y))) (hb : ∀ x ∈ A, -9000000 ≤ x ∧ x ≤ 9000000) (hlen : A.length ≤ 16) :
    Sat cx.P cx.gl 36 [W2 a b, I 0] (.one (I (unL A))) := by
  refine Sat_of_awp (fn := f36) cx_ok (by kernel_rfl) (by kernel_rfl) rfl (by kernel_rfl) (Nat.le_of_ble_eq_true rfl) ?_
  repeat ((first | refine oP rfl ?_ | refine rP rfl (fun _ z => z) ?_ | (refine kO 3 rfl ?_; first | refine rLdr rfl rfl rfl rfl rfl ?_ | refine rG (fun _ z => z) ?_) | (refine kO 7 rfl ?_; refine rG (fun _ z => ⟨_, hs, z⟩) ?_) | (refine kO 6 rfl ?_; refine rLen rfl rfl rfl rfl rfl rfl ?_) | refine oN ?_ | refine aS ?_ | refine aR ?_ | refine aB ?_ | refine aL ?_ | refine dI (by kernel_rfl) ?_ | refine rG (fun _ z => ⟨(by (omega)), z⟩) ?_); (try conv => whnf))
  refine loop_ind (ι := Nat) (fun i => i ≤ A.length) (fun i => A.length - i) (fun i => ⟨[(5, vI (unL (A.take i))), (18, vL A), (19, vI A.length), (20, vI i)], [], 0⟩) 0 (canon_auto (by kernel_rfl)) (Nat.zero_le _) ?_
  intro i hi
  have d1 : i < A.length → unL (A.take (i + 1)) = mx (unL (A.take i)) (ab (A.getD i 0)) := unL_succ
  have d2 : i < A.length → -9000000 ≤ A.getD i 0 ∧ A.getD i 0 ≤ 9000000 := fun h => hb _ (getD_mem h)
  repeat ((first | refine oP rfl ?_ | (refine kO 1 rfl ?_; refine rG (fun _ z => z) ?_) | refine oN ?_ | refine aS ?_ | refine aR ?_ | refine aC rfl ?_); (try conv => whnf))
  ((refine brp (fun h => ?_) (fun h => ?_)) <;> (try conv => whnf))
  · have hlt : i < A.length := by omega
    have d1 := d1 hlt
    have d2 := d2 hlt
    repeat ((first | refine oP rfl ?_ | refine rP rfl (fun _ z => z) ?_ | (refine kO 1 rfl ?_; refine rAdd rfl rfl rfl (by omega) ?_) | (refine kO 3 rfl ?_; refine rLdr rfl rfl rfl rfl rfl ?_) | (refine kO 5 rfl ?_; refine rIdN rfl rfl rfl rfl rfl rfl rfl (by omega) ?_) | (refine kO 7 rfl ?_; refine rG (fun _ z => ⟨_, size73_sat _ (by omega) (by omega), z⟩) ?_) | (refine kO 6 rfl ?_; refine rG (fun _ z => z) ?_) | refine oN ?_ | refine aS ?_ | refine aR ?_ | refine aK ?_ | refine aB ?_); (try conv => whnf))
    exact ⟨i + 1, hlt, by omega, canon_auto (by rw [d1]; kernel_rfl)⟩
  · repeat ((first | refine oP rfl ?_ | refine rP rfl (fun _ z => z) ?_ | refine oN ?_ | refine aS ?_ | refine aR ?_ | refine aX ?_ | refine aT ?_); (try conv => whnf))
    rw [show i = A.length by omega, List.take_length]
theorem unit1_sat (a b A B X Y : List Int) (hs : Sat cx.P cx.gl 55 [W2 a b] (.one (W2 A B))) (hr : Sat cx.P cx.gl 135 [W2 a b] (.one (W2 X Y))) (hb : ∀ x ∈ B, -9000000 ≤ x ∧ x ≤ 9000000) (hlen : B.length ≤ 16) :
    Sat cx.P cx.gl 36 [W2 a b, I 1] (.one (I (unL B))) := by
  refine Sat_of_awp (fn := f36) cx_ok (by kernel_rfl) (by kernel_rfl) rfl (by kernel_rfl) (Nat.le_of_ble_eq_true rfl) ?_
  repeat ((first | refine oP rfl ?_ | refine rP rfl (fun _ z => z) ?_ | (refine kO 3 rfl ?_; first | refine rLdr rfl rfl rfl rfl rfl ?_ | refine rG (fun _ z => z) ?_) | (refine kO 7 rfl ?_; refine rG (fun _ z => ⟨_, hs, z⟩) ?_) | (refine kO 6 rfl ?_; refine rLen rfl rfl rfl rfl rfl rfl ?_) | refine oN ?_ | refine aS ?_ | refine aR ?_ | refine aB ?_ | refine aL ?_ | refine dI (by kernel_rfl) ?_ | refine rG (fun _ z => ⟨(by (omega)), z⟩) ?_); (try conv => whnf))
  refine loop_ind (ι := Nat) (fun i => i ≤ B.length) (fun i => B.length - i) (fun i => ⟨[(5, vI (unL (B.take i))), (18, vL B), (19, vI B.length), (20, vI i)], [], 0⟩) 0 (canon_auto (by kernel_rfl)) (Nat.zero_le _) ?_
  intro i hi
  have d1 : i < B.length → unL (B.take (i + 1)) = mx (unL (B.take i)) (ab (B.getD i 0)) := unL_succ
  have d2 : i < B.length → -9000000 ≤ B.getD i 0 ∧ B.getD i 0 ≤ 9000000 := fun h => hb _ (getD_mem h)
  repeat ((first | refine oP rfl ?_ | (refine kO 1 rfl ?_; refine rG (fun _ z => z) ?_) | refine oN ?_ | refine aS ?_ | refine aR ?_ | refine aC rfl ?_); (try conv => whnf))
  ((refine brp (fun h => ?_) (fun h => ?_)) <;> (try conv => whnf))
  · have hlt : i < B.length := by omega
    have d1 := d1 hlt
    have d2 := d2 hlt
    repeat ((first | refine oP rfl ?_ | refine rP rfl (fun _ z => z) ?_ | (refine kO 1 rfl ?_; refine rAdd rfl rfl rfl (by omega) ?_) | (refine kO 3 rfl ?_; refine rLdr rfl rfl rfl rfl rfl ?_) | (refine kO 5 rfl ?_; refine rIdN rfl rfl rfl rfl rfl rfl rfl (by omega) ?_) | (refine kO 7 rfl ?_; refine rG (fun _ z => ⟨_, size73_sat _ (by omega) (by omega), z⟩) ?_) | (refine kO 6 rfl ?_; refine rG (fun _ z => z) ?_) | refine oN ?_ | refine aS ?_ | refine aR ?_ | refine aK ?_ | refine aB ?_); (try conv => whnf))
    exact ⟨i + 1, hlt, by omega, canon_auto (by rw [d1]; kernel_rfl)⟩
  · repeat ((first | refine oP rfl ?_ | refine rP rfl (fun _ z => z) ?_ | refine oN ?_ | refine aS ?_ | refine aR ?_ | refine aX ?_ | refine aT ?_); (try conv => whnf))
    rw [show i = B.length by omega, List.take_length]
theorem unit2_sat (a b A B X Y : List Int) (hs : Sat cx.P cx.gl 55 [W2 a b] (.one (W2 A B))) (hr : Sat cx.P cx.gl 135 [W2 a b] (.one (W2 X Y))) (hb : ∀ x ∈ X, -9000000 ≤ x ∧ x ≤ 9000000) (hlen : X.length ≤ 16) :
    Sat cx.P cx.gl 36 [W2 a b, I 2] (.one (I (unL X))) := by
  refine Sat_of_awp (fn := f36) cx_ok (by kernel_rfl) (by kernel_rfl) rfl (by kernel_rfl) (Nat.le_of_ble_eq_true rfl) ?_
  repeat ((first | refine oP rfl ?_ | refine rP rfl (fun _ z => z) ?_ | (refine kO 3 rfl ?_; first | refine rLdr rfl rfl rfl rfl rfl ?_ | refine rG (fun _ z => z) ?_) | (refine kO 7 rfl ?_; refine rG (fun _ z => ⟨_, hr, z⟩) ?_) | (refine kO 6 rfl ?_; refine rLen rfl rfl rfl rfl rfl rfl ?_) | refine oN ?_ | refine aS ?_ | refine aR ?_ | refine aB ?_ | refine aL ?_ | refine dI (by kernel_rfl) ?_ | refine rG (fun _ z => ⟨(by (omega)), z⟩) ?_); (try conv => whnf))
  refine loop_ind (ι := Nat) (fun i => i ≤ X.length) (fun i => X.length - i) (fun i => ⟨[(5, vI (unL (X.take i))), (18, vL X), (19, vI X.length), (20, vI i)], [], 0⟩) 0 (canon_auto (by kernel_rfl)) (Nat.zero_le _) ?_
  intro i hi
  have d1 : i < X.length → unL (X.take (i + 1)) = mx (unL (X.take i)) (ab (X.getD i 0)) := unL_succ
  have d2 : i < X.length → -9000000 ≤ X.getD i 0 ∧ X.getD i 0 ≤ 9000000 := fun h => hb _ (getD_mem h)
  repeat ((first | refine oP rfl ?_ | (refine kO 1 rfl ?_; refine rG (fun _ z => z) ?_) | refine oN ?_ | refine aS ?_ | refine aR ?_ | refine aC rfl ?_); (try conv => whnf))
  ((refine brp (fun h => ?_) (fun h => ?_)) <;> (try conv => whnf))
  · have hlt : i < X.length := by omega
    have d1 := d1 hlt
    have d2 := d2 hlt
    repeat ((first | refine oP rfl ?_ | refine rP rfl (fun _ z => z) ?_ | (refine kO 1 rfl ?_; refine rAdd rfl rfl rfl (by omega) ?_) | (refine kO 3 rfl ?_; refine rLdr rfl rfl rfl rfl rfl ?_) | (refine kO 5 rfl ?_; refine rIdN rfl rfl rfl rfl rfl rfl rfl (by omega) ?_) | (refine kO 7 rfl ?_; refine rG (fun _ z => ⟨_, size73_sat _ (by omega) (by omega), z⟩) ?_) | (refine kO 6 rfl ?_; refine rG (fun _ z => z) ?_) | refine oN ?_ | refine aS ?_ | refine aR ?_ | refine aK ?_ | refine aB ?_); (try conv => whnf))
    exact ⟨i + 1, hlt, by omega, canon_auto (by rw [d1]; kernel_rfl)⟩
  · repeat ((first | refine oP rfl ?_ | refine rP rfl (fun _ z => z) ?_ | refine oN ?_ | refine aS ?_ | refine aR ?_ | refine aX ?_ | refine aT ?_); (try conv => whnf))
    rw [show i = X.length by omega, List.take_length]
theorem unit3_sat (a b A B X Y : List Int) (hs : Sat cx.P cx.gl 55 [W2 a b] (.one (W2 A B))) (hr : Sat cx.P cx.gl 135 [W2 a b] (.one (W2 X Y))) (hb : ∀ x ∈ Y, -9000000 ≤ x ∧ x ≤ 9000000) (hlen : Y.length ≤ 16) :
    Sat cx.P cx.gl 36 [W2 a b, I 3] (.one (I (unL Y))) := by
  refine Sat_of_awp (fn := f36) cx_ok (by kernel_rfl) (by kernel_rfl) rfl (by kernel_rfl) (Nat.le_of_ble_eq_true rfl) ?_
  repeat ((first | refine oP rfl ?_ | refine rP rfl (fun _ z => z) ?_ | (refine kO 3 rfl ?_; first | refine rLdr rfl rfl rfl rfl rfl ?_ | refine rG (fun _ z => z) ?_) | (refine kO 7 rfl ?_; refine rG (fun _ z => ⟨_, hr, z⟩) ?_) | (refine kO 6 rfl ?_; refine rLen rfl rfl rfl rfl rfl rfl ?_) | refine oN ?_ | refine aS ?_ | refine aR ?_ | refine aB ?_ | refine aL ?_ | refine dI (by kernel_rfl) ?_ | refine rG (fun _ z => ⟨(by (omega)), z⟩) ?_); (try conv => whnf))
  refine loop_ind (ι := Nat) (fun i => i ≤ Y.length) (fun i => Y.length - i) (fun i => ⟨[(5, vI (unL (Y.take i))), (18, vL Y), (19, vI Y.length), (20, vI i)], [], 0⟩) 0 (canon_auto (by kernel_rfl)) (Nat.zero_le _) ?_
  intro i hi
  have d1 : i < Y.length → unL (Y.take (i + 1)) = mx (unL (Y.take i)) (ab (Y.getD i 0)) := unL_succ
  have d2 : i < Y.length → -9000000 ≤ Y.getD i 0 ∧ Y.getD i 0 ≤ 9000000 := fun h => hb _ (getD_mem h)
  repeat ((first | refine oP rfl ?_ | (refine kO 1 rfl ?_; refine rG (fun _ z => z) ?_) | refine oN ?_ | refine aS ?_ | refine aR ?_ | refine aC rfl ?_); (try conv => whnf))
  ((refine brp (fun h => ?_) (fun h => ?_)) <;> (try conv => whnf))
  · have hlt : i < Y.length := by omega
    have d1 := d1 hlt
    have d2 := d2 hlt
    repeat ((first | refine oP rfl ?_ | refine rP rfl (fun _ z => z) ?_ | (refine kO 1 rfl ?_; refine rAdd rfl rfl rfl (by omega) ?_) | (refine kO 3 rfl ?_; refine rLdr rfl rfl rfl rfl rfl ?_) | (refine kO 5 rfl ?_; refine rIdN rfl rfl rfl rfl rfl rfl rfl (by omega) ?_) | (refine kO 7 rfl ?_; refine rG (fun _ z => ⟨_, size73_sat _ (by omega) (by omega), z⟩) ?_) | (refine kO 6 rfl ?_; refine rG (fun _ z => z) ?_) | refine oN ?_ | refine aS ?_ | refine aR ?_ | refine aK ?_ | refine aB ?_); (try conv => whnf))
    exact ⟨i + 1, hlt, by omega, canon_auto (by rw [d1]; kernel_rfl)⟩
  · repeat ((first | refine oP rfl ?_ | refine rP rfl (fun _ z => z) ?_ | refine oN ?_ | refine aS ?_ | refine aR ?_ | refine aX ?_ | refine aT ?_); (try conv => whnf))
    rw [show i = Y.length by omega, List.take_length]
theorem unit_sat (a b : List Int) (k : Int) (hv : VW a b) (hk : 0 ≤ k ∧ k ≤ 3) : Sat cx.P cx.gl 36 [W2 a b, I k] (.one (I (unitV a b k))) := by
  have hb := kindL_bound hv k
  have hlen := kindL_len hv k
  have hs := thrusts_sat a b hv
  have hr := radial_sat a b hv
  unfold unitV
  have h4 : k = 0 ∨ k = 1 ∨ k = 2 ∨ k = 3 := by omega
  rcases h4 with rfl | rfl | rfl | rfl
  · exact unit0_sat a b _ _ _ _ hs hr hb hlen
  · exact unit1_sat a b _ _ _ _ hs hr hb hlen
  · exact unit2_sat a b _ _ _ _ hs hr hb hlen
  · exact unit3_sat a b _ _ _ _ hs hr hb hlen
/-- The error of a unit force. -/
def uErr (a b : List Int) (k : Int) : Int := if windowErr a b ≠ 0 then windowErr a b else if 0 ≤ k ∧ k ≤ 3 then 0 else 15
theorem refAxial1_sat (t a b : List Int) (hv : VW a b) (ht : ∀ n ∈ t, -100 ≤ n ∧ n ≤ 100) (hlen : t.length = a.length) : Sat cx.P cx.gl 106 [W2 a b, L t] (.own 1 (.ints (axL t a b a.length))) := by
  have hle := hv.le
  have hpos := hv.pos
  have c1 := residL_len a b a.length
  have c2 : ∀ i, i ≤ a.length → (residL a b a.length).getD i 0 = rs a b i := fun i hi => residL_getD hi
  have c3 := hv.rs_bound
  have f1 : ∀ i, i < a.length → (-6000 ≤ rs a b i + rs a b (i + 1) ∧ rs a b i + rs a b (i + 1) ≤ 6000) := fun i _ => by have := c3 i; have := c3 (i + 1); omega
  refine Sat_of_awp (fn := f106) cx_ok (by kernel_rfl) (by kernel_rfl) rfl (by kernel_rfl) (Nat.le_of_ble_eq_true rfl) ?_
  repeat ((first | refine oP rfl ?_ | refine rP rfl (fun _ z => z) ?_ | (refine kO 3 rfl ?_; refine rG (fun _ z => z) ?_) | (refine kO 7 rfl ?_; refine rG (fun _ z => ⟨_, refResiduals_sat a b hv, z⟩) ?_) | refine oN ?_ | refine aS ?_ | refine aR ?_ | refine aB ?_ | refine aL ?_); (try conv => whnf))
  refine loop_round ?_
  have d1 := c2 0 (by omega)
  have d2 := c2 (0 + 1) (by omega)
  have d3 := f1 0 hpos
  have d4 := hv.ax_bound ht 0
  unfold axF at d4
  rw [← d1, ← d2] at d4
  repeat ((first | refine oP rfl ?_ | refine rP rfl (fun _ z => z) ?_ | (refine kO 1 rfl ?_; first | refine rAdd rfl rfl rfl (by omega) ?_ | refine rMul rfl rfl rfl (by omega) ?_ | refine rG (fun _ z => z) ?_) | (refine kO 3 rfl ?_; first | refine rLdr rfl rfl rfl rfl rfl ?_ | refine rLdi rfl rfl rfl rfl rfl rfl (by omega) ?_) | (refine kO 5 rfl ?_; first | refine rIdN rfl rfl rfl rfl rfl rfl rfl (by omega) ?_ | refine rIdoN rfl rfl rfl rfl rfl rfl rfl rfl (by (dsimp only [SC.len]; omega)) ?_) | (refine kO 6 rfl ?_; refine rLen rfl rfl rfl rfl rfl rfl ?_) | refine oN ?_ | refine aS ?_ | refine aR ?_ | refine aK ?_ | refine aB ?_ | refine aC rfl ?_ | refine bPt (by omega) ?_ | refine dI (by kernel_rfl) ?_ | refine rG (fun _ z => ⟨(by (rfl)), (by (((try unfold SC.len); (try unfold SC.uni); (try unfold LIM); (try simp); (try omega); done))), z⟩) ?_); (try conv => whnf))
  refine loop_ind (ι := Nat) (fun i => 1 ≤ i ∧ i ≤ a.length) (fun i => a.length - i) (fun i => ⟨[(1, vL t), (5, pO 0), (6, pO 1), (7, vI i)], [(0, some (.row true 1 (.ints (residL a b a.length)))), (1, some (.row true 1 (.ints (axL t a b i))))], 2⟩) 1 (canon_auto (by rw [d1, d2]; kernel_rfl)) ⟨by omega, by omega⟩ ?_
  clear d1 d2 d3 d4
  rintro i ⟨hi0, hi⟩
  have d1 := c2 i hi
  have d2 : i < a.length → (residL a b a.length).getD (i + 1) 0 = rs a b (i + 1) := fun hh => c2 (i + 1) hh
  have d4 := hv.ax_bound ht i
  unfold axF at d4
  have d6 := axL_len t a b i
  have d5 := axL_succ t a b i
  unfold axF at d5
  repeat ((first | refine oP rfl ?_ | refine rP rfl (fun _ z => z) ?_ | (refine kO 1 rfl ?_; refine rG (fun _ z => z) ?_) | (refine kO 6 rfl ?_; refine rLen rfl rfl rfl rfl rfl rfl ?_) | refine oN ?_ | refine aS ?_ | refine aR ?_ | refine aC rfl ?_); (try conv => whnf))
  ((refine brp (fun h => ?_) (fun h => ?_)) <;> (try conv => whnf))
  · have hlt : i < a.length := by omega
    have d2 := d2 hlt
    have d3 := f1 i hlt
    rw [← d1, ← d2] at d4 d5
    repeat ((first | refine oP rfl ?_ | refine rP rfl (fun _ z => z) ?_ | (refine kO 1 rfl ?_; first | refine rAdd rfl rfl rfl (by omega) ?_ | refine rMul rfl rfl rfl (by omega) ?_) | (refine kO 3 rfl ?_; first | refine rLdr rfl rfl rfl rfl rfl ?_ | refine rLdi rfl rfl rfl rfl rfl rfl (by omega) ?_) | (refine kO 5 rfl ?_; first | refine rIdN rfl rfl rfl rfl rfl rfl rfl (by omega) ?_ | refine rIdoN rfl rfl rfl rfl rfl rfl rfl rfl (by (dsimp only [SC.len]; omega)) ?_) | refine oN ?_ | refine aS ?_ | refine aR ?_ | refine aK ?_ | refine aB ?_ | refine dI (by kernel_rfl) ?_ | refine rG (fun _ z => ⟨(by (rfl)), (by (exact lnS (by omega))), z⟩) ?_); (try conv => whnf))
    rw [← d5]
    exact ⟨i + 1, ⟨by omega, hlt⟩, by omega, canon_auto (by kernel_rfl)⟩
  · repeat ((first | refine oP rfl ?_ | refine rP rfl (fun _ z => z) ?_ | refine oN ?_ | refine aS ?_ | refine aR ?_ | refine aX ?_ | refine aT ?_); (try conv => whnf))
    rw [show i = a.length by omega]
theorem refAxial_sat (a b : List Int) (hv : VW a b) : Sat cx.P cx.gl 96 [W2 a b] (.one (W2 (axL a a b a.length) (axL b a b a.length))) := by
  refine Sat_of_awp (fn := f96) cx_ok (by kernel_rfl) (by kernel_rfl) rfl (by kernel_rfl) (Nat.le_of_ble_eq_true rfl) ?_
  repeat ((first | refine oP rfl ?_ | refine rP rfl (fun _ z => z) ?_ | (refine kO 3 rfl ?_; first | refine rLdb rfl rfl rfl rfl rfl rfl rfl ?_ | refine rG (fun _ z => z) ?_) | (refine kO 4 rfl ?_; refine rG (fun _ z => z) ?_) | (refine kO 7 rfl ?_; first | refine rG (fun _ z => ⟨_, refAxial1_sat a a b hv hv.ra rfl, z⟩) ?_ | refine rG (fun _ z => ⟨_, refAxial1_sat b a b hv hv.rb hv.len, z⟩) ?_) | refine oN ?_ | refine aS ?_ | refine aR ?_ | refine aT ?_ | refine dI (by kernel_rfl) ?_); (try conv => whnf))
  rfl
theorem sums_sat (l : List Int) (hb : ∀ k, -9000000 ≤ psum l k ∧ psum l k ≤ 9000000) (hlen : l.length ≤ 16) : Sat cx.P cx.gl 97 [L l] (.own 1 (.ints (sumsL l l.length))) := by
  refine Sat_of_awp (fn := f97) cx_ok (by kernel_rfl) (by kernel_rfl) rfl (by kernel_rfl) (Nat.le_of_ble_eq_true rfl) ?_
  repeat ((first | refine oP rfl ?_ | refine rP rfl (fun _ z => z) ?_ | refine oN ?_ | refine aS ?_ | refine aR ?_ | refine aB ?_ | refine aL ?_); (try conv => whnf))
  refine loop_ind (ι := Nat) (fun i => i ≤ l.length) (fun i => l.length - i) (fun i => ⟨[(0, vL l), (3, pO 0), (4, vI i)], [(0, some (.row true 1 (.ints (sumsL l i))))], 1⟩) 0 (canon_auto (by kernel_rfl)) (Nat.zero_le _) ?_
  intro i hi
  have b1 := hb (i + 1)
  have b5 := sumsL_len l i
  have b6 := sumsL_getD (l := l) (Nat.le_refl i)
  have b8 := sumsL_succ l i
  have b7 : i < l.length → psum l (i + 1) = psum l i + l.getD i 0 := fun hh => psum_succ hh
  repeat ((first | refine oP rfl ?_ | refine rP rfl (fun _ z => z) ?_ | (refine kO 1 rfl ?_; refine rG (fun _ z => z) ?_) | (refine kO 6 rfl ?_; refine rLen rfl rfl rfl rfl rfl rfl ?_) | refine oN ?_ | refine aS ?_ | refine aR ?_ | refine aC rfl ?_); (try conv => whnf))
  ((refine brp (fun h => ?_) (fun h => ?_)) <;> (try conv => whnf))
  · have hlt : i < l.length := by omega
    have b7 := b7 hlt
    repeat ((first | refine oP rfl ?_ | refine rP rfl (fun _ z => z) ?_ | (refine kO 1 rfl ?_; refine rAdd rfl rfl rfl (by omega) ?_) | (refine kO 3 rfl ?_; first | refine rLdr rfl rfl rfl rfl rfl ?_ | refine rLdi rfl rfl rfl rfl rfl rfl (by omega) ?_) | (refine kO 5 rfl ?_; first | refine rIdN rfl rfl rfl rfl rfl rfl rfl (by omega) ?_ | refine rIdoN rfl rfl rfl rfl rfl rfl rfl rfl (by (dsimp only [SC.len]; omega)) ?_) | refine oN ?_ | refine aS ?_ | refine aR ?_ | refine aK ?_ | refine aB ?_ | refine dI (by kernel_rfl) ?_ | refine rG (fun _ z => ⟨(by (rfl)), (by (exact lnS (by omega))), z⟩) ?_); (try conv => whnf))
    rw [b6, ← b7, ← b8]
    exact ⟨i + 1, hlt, by omega, canon_auto (by kernel_rfl)⟩
  · repeat ((first | refine oP rfl ?_ | refine rP rfl (fun _ z => z) ?_ | refine oN ?_ | refine aS ?_ | refine aR ?_ | refine aX ?_ | refine aT ?_); (try conv => whnf))
    rw [show i = l.length by omega]
theorem refThrusts_sat (a b : List Int) (hv : VW a b) : Sat cx.P cx.gl 77 [W2 a b] (.one (W2 (thL (axL a a b a.length)) (thL (axL b a b a.length)))) := by
  have hle := hv.le
  have la := axL_len a a b a.length
  have lb := axL_len b a b a.length
  have pa : ∀ k, -9000000 ≤ psum (axL a a b a.length) k ∧ psum (axL a a b a.length) k ≤ 9000000 := fun k => by
    have := psum_bound (B := 600000) (by omega) (axL_mem hv hv.ra a.length) k
    omega
  have pb : ∀ k, -9000000 ≤ psum (axL b a b a.length) k ∧ psum (axL b a b a.length) k ≤ 9000000 := fun k => by
    have := psum_bound (B := 600000) (by omega) (axL_mem hv hv.rb a.length) k
    omega
  refine Sat_of_awp (fn := f77) cx_ok (by kernel_rfl) (by kernel_rfl) rfl (by kernel_rfl) (Nat.le_of_ble_eq_true rfl) ?_
  repeat ((first | refine oP rfl ?_ | refine rP rfl (fun _ z => z) ?_ | (refine kO 3 rfl ?_; first | refine rLdb rfl rfl rfl rfl rfl rfl rfl ?_ | refine rG (fun _ z => z) ?_) | (refine kO 4 rfl ?_; refine rG (fun _ z => z) ?_) | (refine kO 7 rfl ?_; first | refine rG (fun _ z => ⟨_, refAxial_sat a b hv, z⟩) ?_ | refine rG (fun _ z => ⟨_, sums_sat _ pa (by omega), z⟩) ?_ | refine rG (fun _ z => ⟨_, sums_sat _ pb (by omega), z⟩) ?_) | refine oN ?_ | refine aS ?_ | refine aR ?_ | refine aT ?_ | refine dI (by kernel_rfl) ?_ | refine rG (fun _ z => ⟨(by (omega)), z⟩) ?_); (try conv => whnf))
  rfl
theorem refRadial_sat (a b : List Int) (hv : VW a b) : Sat cx.P cx.gl 78 [W2 a b] (.one (W2 (rdIL a b a.length) (rdOL a b a.length))) := by
  have hl := hv.len
  have hle := hv.le
  have hpos := hv.pos
  refine Sat_of_awp (fn := f78) cx_ok (by kernel_rfl) (by kernel_rfl) rfl (by kernel_rfl) (Nat.le_of_ble_eq_true rfl) ?_
  repeat ((first | refine oP rfl ?_ | refine rP rfl (fun _ z => z) ?_ | refine oN ?_ | refine aS ?_ | refine aR ?_ | refine aB ?_ | refine aL ?_); (try conv => whnf))
  refine loop_round ?_
  have d1 := hv.rd_bound 0
  have d2 := hv.a_bound 0
  have d3 := hv.b_bound 0
  unfold rdI rdO at d1
  repeat ((first | refine oP rfl ?_ | refine rP rfl (fun _ z => z) ?_ | (refine kO 1 rfl ?_; first | refine rAdd rfl rfl rfl (by omega) ?_ | refine rSub rfl rfl rfl (by omega) ?_ | refine rMul rfl rfl rfl (by omega) ?_ | refine rG (fun _ z => z) ?_) | (refine kO 2 rfl ?_; refine rNeg rfl rfl (by omega) ?_) | (refine kO 3 rfl ?_; first | refine rLdr rfl rfl rfl rfl rfl ?_ | refine rLdb rfl rfl rfl rfl rfl rfl rfl ?_) | (refine kO 4 rfl ?_; refine rG (fun _ z => z) ?_) | (refine kO 5 rfl ?_; refine rIdN rfl rfl rfl rfl rfl rfl rfl (by omega) ?_) | (refine kO 6 rfl ?_; refine rLen rfl rfl rfl rfl rfl rfl ?_) | refine oN ?_ | refine aS ?_ | refine aR ?_ | refine aK ?_ | refine aB ?_ | refine aC rfl ?_ | refine bPt (by omega) ?_ | refine dI (by kernel_rfl) ?_ | refine rG (fun _ z => ⟨(by (omega)), z⟩) ?_ | refine rG (fun _ z => ⟨(by (rfl)), (by (((try unfold SC.len); (try unfold SC.uni); (try unfold LIM); (try simp); (try omega); done))), z⟩) ?_); (try conv => whnf))
  refine loop_ind (ι := Nat) (fun i => 1 ≤ i ∧ i ≤ a.length) (fun i => a.length - i) (fun i => ⟨[(1, pP 0), (2, pP 1), (3, pP 2), (4, vI i)],
    [(0, some (.box 35 [.st (.ints a), .st (.ints b)])), (1, some (.box 54 [.nil, .nil])), (2, some (.box 54 [.own 3, .own 4])), (3, some (.row true 1 (.ints (rdIL a b i)))), (4, some (.row true 1 (.ints (rdOL a b i))))], 5⟩) 1 (canon_auto (by kernel_rfl)) ⟨by omega, by omega⟩ ?_
  clear d1 d2 d3
  rintro i ⟨hi0, hi⟩
  have d1 := hv.rd_bound i
  have d2 := hv.a_bound i
  have d3 := hv.b_bound i
  have d4 := rdIL_len a b i
  have d5 := rdOL_len a b i
  have d6 := rdIL_succ a b i
  have d7 := rdOL_succ a b i
  unfold rdI rdO at d1
  unfold rdI at d6
  unfold rdO at d7
  repeat ((first | refine oP rfl ?_ | refine rP rfl (fun _ z => z) ?_ | (refine kO 1 rfl ?_; refine rG (fun _ z => z) ?_) | (refine kO 3 rfl ?_; refine rLdb rfl rfl rfl rfl rfl rfl rfl ?_) | (refine kO 6 rfl ?_; refine rLen rfl rfl rfl rfl rfl rfl ?_) | refine oN ?_ | refine aS ?_ | refine aR ?_ | refine aC rfl ?_); (try conv => whnf))
  ((refine brp (fun h => ?_) (fun h => ?_)) <;> (try conv => whnf))
  · have hlt : i < a.length := by omega
    repeat ((first | refine oP rfl ?_ | refine rP rfl (fun _ z => z) ?_ | (refine kO 1 rfl ?_; first | refine rAdd rfl rfl rfl (by omega) ?_ | refine rSub rfl rfl rfl (by omega) ?_ | refine rMul rfl rfl rfl (by omega) ?_) | (refine kO 2 rfl ?_; refine rNeg rfl rfl (by omega) ?_) | (refine kO 3 rfl ?_; first | refine rLdr rfl rfl rfl rfl rfl ?_ | refine rLdb rfl rfl rfl rfl rfl rfl rfl ?_) | (refine kO 4 rfl ?_; refine rG (fun _ z => z) ?_) | (refine kO 5 rfl ?_; refine rIdN rfl rfl rfl rfl rfl rfl rfl (by omega) ?_) | refine oN ?_ | refine aS ?_ | refine aR ?_ | refine aK ?_ | refine aB ?_ | refine dI (by kernel_rfl) ?_ | refine rG (fun _ z => ⟨(by (omega)), z⟩) ?_ | refine rG (fun _ z => ⟨(by (rfl)), (by (exact lnS (by omega))), z⟩) ?_); (try conv => whnf))
    rw [← d6, ← d7]
    exact ⟨i + 1, ⟨by omega, hlt⟩, by omega, canon_auto (by kernel_rfl)⟩
  · repeat ((first | refine oP rfl ?_ | (refine kO 3 rfl ?_; refine rG (fun _ z => z) ?_) | (refine kO 4 rfl ?_; refine rG (fun _ z => z) ?_) | refine oN ?_ | refine aS ?_ | refine aR ?_ | refine aX ?_ | refine aT ?_); (try conv => whnf))
    obtain rfl : i = a.length := by omega
    rfl
theorem refUnit0_sat (a b A B X Y : List Int) (hs : Sat cx.P cx.gl 77 [W2 a b] (.one (W2 A B))) (hr : Sat cx.P cx.gl 78 [W2 a b] (.one (W2 X Y))) (hb : ∀ x ∈ A, -9000000 ≤ x ∧ x ≤ 9000000) (hlen : A.length ≤ 16) :
    Sat cx.P cx.gl 48 [W2 a b, I 0] (.one (I (unL A))) := by
  refine Sat_of_awp (fn := f48) cx_ok (by kernel_rfl) (by kernel_rfl) rfl (by kernel_rfl) (Nat.le_of_ble_eq_true rfl) ?_
  repeat ((first | refine oP rfl ?_ | refine rP rfl (fun _ z => z) ?_ | (refine kO 1 rfl ?_; refine rG (fun _ z => z) ?_) | (refine kO 3 rfl ?_; refine rG (fun _ z => z) ?_) | (refine kO 7 rfl ?_; refine rG (fun _ z => ⟨_, hs, z⟩) ?_) | refine oN ?_ | refine aS ?_ | refine aR ?_ | refine aB ?_ | refine aC rfl ?_ | refine bT ?_ | refine aL ?_ | refine rG (fun _ z => ⟨(by (omega)), z⟩) ?_); (try conv => whnf))
  refine loop_ind (ι := Nat) (fun i => i ≤ A.length) (fun i => A.length - i) (fun i => ⟨[(6, vI (unL (A.take i))), (5, vL A), (7, vI i)], [], 0⟩) 0 (canon_auto (by kernel_rfl)) (Nat.zero_le _) ?_
  intro i hi
  have d1 : i < A.length → unL (A.take (i + 1)) = mx (unL (A.take i)) (ab (A.getD i 0)) := unL_succ
  have d2 : i < A.length → -9000000 ≤ A.getD i 0 ∧ A.getD i 0 ≤ 9000000 := fun h => hb _ (getD_mem h)
  repeat ((first | refine oP rfl ?_ | refine rP rfl (fun _ z => z) ?_ | (refine kO 1 rfl ?_; refine rG (fun _ z => z) ?_) | (refine kO 6 rfl ?_; refine rLen rfl rfl rfl rfl rfl rfl ?_) | refine oN ?_ | refine aS ?_ | refine aR ?_ | refine aC rfl ?_); (try conv => whnf))
  ((refine brp (fun h => ?_) (fun h => ?_)) <;> (try conv => whnf))
  · have hlt : i < A.length := by omega
    have d1 := d1 hlt
    have d2 := d2 hlt
    repeat ((first | refine oP rfl ?_ | refine rP rfl (fun _ z => z) ?_ | (refine kO 1 rfl ?_; refine rAdd rfl rfl rfl (by omega) ?_) | (refine kO 3 rfl ?_; refine rLdr rfl rfl rfl rfl rfl ?_) | (refine kO 5 rfl ?_; refine rIdN rfl rfl rfl rfl rfl rfl rfl (by omega) ?_) | (refine kO 7 rfl ?_; refine rG (fun _ z => ⟨_, size_sat _ (by omega) (by omega), z⟩) ?_) | (refine kO 6 rfl ?_; refine rG (fun _ z => z) ?_) | refine oN ?_ | refine aS ?_ | refine aR ?_ | refine aK ?_ | refine aB ?_); (try conv => whnf))
    exact ⟨i + 1, hlt, by omega, canon_auto (by rw [d1]; kernel_rfl)⟩
  · repeat ((first | refine oP rfl ?_ | refine rP rfl (fun _ z => z) ?_ | refine oN ?_ | refine aS ?_ | refine aR ?_ | refine aX ?_ | refine aT ?_); (try conv => whnf))
    rw [show i = A.length by omega, List.take_length]
theorem refUnit1_sat (a b A B X Y : List Int) (hs : Sat cx.P cx.gl 77 [W2 a b] (.one (W2 A B))) (hr : Sat cx.P cx.gl 78 [W2 a b] (.one (W2 X Y))) (hb : ∀ x ∈ B, -9000000 ≤ x ∧ x ≤ 9000000) (hlen : B.length ≤ 16) :
    Sat cx.P cx.gl 48 [W2 a b, I 1] (.one (I (unL B))) := by
  refine Sat_of_awp (fn := f48) cx_ok (by kernel_rfl) (by kernel_rfl) rfl (by kernel_rfl) (Nat.le_of_ble_eq_true rfl) ?_
  repeat ((first | refine oP rfl ?_ | refine rP rfl (fun _ z => z) ?_ | (refine kO 1 rfl ?_; refine rG (fun _ z => z) ?_) | (refine kO 3 rfl ?_; refine rG (fun _ z => z) ?_) | (refine kO 7 rfl ?_; refine rG (fun _ z => ⟨_, hs, z⟩) ?_) | refine oN ?_ | refine aS ?_ | refine aR ?_ | refine aB ?_ | refine aC rfl ?_ | refine bT ?_ | refine bF ?_ | refine aL ?_ | refine rG (fun _ z => ⟨(by (omega)), z⟩) ?_); (try conv => whnf))
  refine loop_ind (ι := Nat) (fun i => i ≤ B.length) (fun i => B.length - i) (fun i => ⟨[(6, vI (unL (B.take i))), (5, vL B), (7, vI i)], [], 0⟩) 0 (canon_auto (by kernel_rfl)) (Nat.zero_le _) ?_
  intro i hi
  have d1 : i < B.length → unL (B.take (i + 1)) = mx (unL (B.take i)) (ab (B.getD i 0)) := unL_succ
  have d2 : i < B.length → -9000000 ≤ B.getD i 0 ∧ B.getD i 0 ≤ 9000000 := fun h => hb _ (getD_mem h)
  repeat ((first | refine oP rfl ?_ | refine rP rfl (fun _ z => z) ?_ | (refine kO 1 rfl ?_; refine rG (fun _ z => z) ?_) | (refine kO 6 rfl ?_; refine rLen rfl rfl rfl rfl rfl rfl ?_) | refine oN ?_ | refine aS ?_ | refine aR ?_ | refine aC rfl ?_); (try conv => whnf))
  ((refine brp (fun h => ?_) (fun h => ?_)) <;> (try conv => whnf))
  · have hlt : i < B.length := by omega
    have d1 := d1 hlt
    have d2 := d2 hlt
    repeat ((first | refine oP rfl ?_ | refine rP rfl (fun _ z => z) ?_ | (refine kO 1 rfl ?_; refine rAdd rfl rfl rfl (by omega) ?_) | (refine kO 3 rfl ?_; refine rLdr rfl rfl rfl rfl rfl ?_) | (refine kO 5 rfl ?_; refine rIdN rfl rfl rfl rfl rfl rfl rfl (by omega) ?_) | (refine kO 7 rfl ?_; refine rG (fun _ z => ⟨_, size_sat _ (by omega) (by omega), z⟩) ?_) | (refine kO 6 rfl ?_; refine rG (fun _ z => z) ?_) | refine oN ?_ | refine aS ?_ | refine aR ?_ | refine aK ?_ | refine aB ?_); (try conv => whnf))
    exact ⟨i + 1, hlt, by omega, canon_auto (by rw [d1]; kernel_rfl)⟩
  · repeat ((first | refine oP rfl ?_ | refine rP rfl (fun _ z => z) ?_ | refine oN ?_ | refine aS ?_ | refine aR ?_ | refine aX ?_ | refine aT ?_); (try conv => whnf))
    rw [show i = B.length by omega, List.take_length]
theorem refUnit2_sat (a b A B X Y : List Int) (hs : Sat cx.P cx.gl 77 [W2 a b] (.one (W2 A B))) (hr : Sat cx.P cx.gl 78 [W2 a b] (.one (W2 X Y))) (hb : ∀ x ∈ X, -9000000 ≤ x ∧ x ≤ 9000000) (hlen : X.length ≤ 16) :
    Sat cx.P cx.gl 48 [W2 a b, I 2] (.one (I (unL X))) := by
  refine Sat_of_awp (fn := f48) cx_ok (by kernel_rfl) (by kernel_rfl) rfl (by kernel_rfl) (Nat.le_of_ble_eq_true rfl) ?_
  repeat ((first | refine oP rfl ?_ | refine rP rfl (fun _ z => z) ?_ | (refine kO 1 rfl ?_; refine rG (fun _ z => z) ?_) | (refine kO 3 rfl ?_; refine rG (fun _ z => z) ?_) | (refine kO 7 rfl ?_; refine rG (fun _ z => ⟨_, hr, z⟩) ?_) | refine oN ?_ | refine aS ?_ | refine aR ?_ | refine aB ?_ | refine aC rfl ?_ | refine bT ?_ | refine bF ?_ | refine aL ?_ | refine rG (fun _ z => ⟨(by (omega)), z⟩) ?_); (try conv => whnf))
  refine loop_ind (ι := Nat) (fun i => i ≤ X.length) (fun i => X.length - i) (fun i => ⟨[(6, vI (unL (X.take i))), (5, vL X), (7, vI i)], [], 0⟩) 0 (canon_auto (by kernel_rfl)) (Nat.zero_le _) ?_
  intro i hi
  have d1 : i < X.length → unL (X.take (i + 1)) = mx (unL (X.take i)) (ab (X.getD i 0)) := unL_succ
  have d2 : i < X.length → -9000000 ≤ X.getD i 0 ∧ X.getD i 0 ≤ 9000000 := fun h => hb _ (getD_mem h)
  repeat ((first | refine oP rfl ?_ | refine rP rfl (fun _ z => z) ?_ | (refine kO 1 rfl ?_; refine rG (fun _ z => z) ?_) | (refine kO 6 rfl ?_; refine rLen rfl rfl rfl rfl rfl rfl ?_) | refine oN ?_ | refine aS ?_ | refine aR ?_ | refine aC rfl ?_); (try conv => whnf))
  ((refine brp (fun h => ?_) (fun h => ?_)) <;> (try conv => whnf))
  · have hlt : i < X.length := by omega
    have d1 := d1 hlt
    have d2 := d2 hlt
    repeat ((first | refine oP rfl ?_ | refine rP rfl (fun _ z => z) ?_ | (refine kO 1 rfl ?_; refine rAdd rfl rfl rfl (by omega) ?_) | (refine kO 3 rfl ?_; refine rLdr rfl rfl rfl rfl rfl ?_) | (refine kO 5 rfl ?_; refine rIdN rfl rfl rfl rfl rfl rfl rfl (by omega) ?_) | (refine kO 7 rfl ?_; refine rG (fun _ z => ⟨_, size_sat _ (by omega) (by omega), z⟩) ?_) | (refine kO 6 rfl ?_; refine rG (fun _ z => z) ?_) | refine oN ?_ | refine aS ?_ | refine aR ?_ | refine aK ?_ | refine aB ?_); (try conv => whnf))
    exact ⟨i + 1, hlt, by omega, canon_auto (by rw [d1]; kernel_rfl)⟩
  · repeat ((first | refine oP rfl ?_ | refine rP rfl (fun _ z => z) ?_ | refine oN ?_ | refine aS ?_ | refine aR ?_ | refine aX ?_ | refine aT ?_); (try conv => whnf))
    rw [show i = X.length by omega, List.take_length]
theorem refUnit3_sat (a b A B X Y : List Int) (hs : Sat cx.P cx.gl 77 [W2 a b] (.one (W2 A B))) (hr : Sat cx.P cx.gl 78 [W2 a b] (.one (W2 X Y))) (hb : ∀ x ∈ Y, -9000000 ≤ x ∧ x ≤ 9000000) (hlen : Y.length ≤ 16) :
    Sat cx.P cx.gl 48 [W2 a b, I 3] (.one (I (unL Y))) := by
  refine Sat_of_awp (fn := f48) cx_ok (by kernel_rfl) (by kernel_rfl) rfl (by kernel_rfl) (Nat.le_of_ble_eq_true rfl) ?_
  repeat ((first | refine oP rfl ?_ | refine rP rfl (fun _ z => z) ?_ | (refine kO 1 rfl ?_; refine rG (fun _ z => z) ?_) | (refine kO 3 rfl ?_; refine rG (fun _ z => z) ?_) | (refine kO 7 rfl ?_; refine rG (fun _ z => ⟨_, hr, z⟩) ?_) | refine oN ?_ | refine aS ?_ | refine aR ?_ | refine aB ?_ | refine aC rfl ?_ | refine bT ?_ | refine bF ?_ | refine aL ?_ | refine rG (fun _ z => ⟨(by (omega)), z⟩) ?_); (try conv => whnf))
  refine loop_ind (ι := Nat) (fun i => i ≤ Y.length) (fun i => Y.length - i) (fun i => ⟨[(6, vI (unL (Y.take i))), (5, vL Y), (7, vI i)], [], 0⟩) 0 (canon_auto (by kernel_rfl)) (Nat.zero_le _) ?_
  intro i hi
  have d1 : i < Y.length → unL (Y.take (i + 1)) = mx (unL (Y.take i)) (ab (Y.getD i 0)) := unL_succ
  have d2 : i < Y.length → -9000000 ≤ Y.getD i 0 ∧ Y.getD i 0 ≤ 9000000 := fun h => hb _ (getD_mem h)
  repeat ((first | refine oP rfl ?_ | refine rP rfl (fun _ z => z) ?_ | (refine kO 1 rfl ?_; refine rG (fun _ z => z) ?_) | (refine kO 6 rfl ?_; refine rLen rfl rfl rfl rfl rfl rfl ?_) | refine oN ?_ | refine aS ?_ | refine aR ?_ | refine aC rfl ?_); (try conv => whnf))
  ((refine brp (fun h => ?_) (fun h => ?_)) <;> (try conv => whnf))
  · have hlt : i < Y.length := by omega
    have d1 := d1 hlt
    have d2 := d2 hlt
    repeat ((first | refine oP rfl ?_ | refine rP rfl (fun _ z => z) ?_ | (refine kO 1 rfl ?_; refine rAdd rfl rfl rfl (by omega) ?_) | (refine kO 3 rfl ?_; refine rLdr rfl rfl rfl rfl rfl ?_) | (refine kO 5 rfl ?_; refine rIdN rfl rfl rfl rfl rfl rfl rfl (by omega) ?_) | (refine kO 7 rfl ?_; refine rG (fun _ z => ⟨_, size_sat _ (by omega) (by omega), z⟩) ?_) | (refine kO 6 rfl ?_; refine rG (fun _ z => z) ?_) | refine oN ?_ | refine aS ?_ | refine aR ?_ | refine aK ?_ | refine aB ?_); (try conv => whnf))
    exact ⟨i + 1, hlt, by omega, canon_auto (by rw [d1]; kernel_rfl)⟩
  · repeat ((first | refine oP rfl ?_ | refine rP rfl (fun _ z => z) ?_ | refine oN ?_ | refine aS ?_ | refine aR ?_ | refine aX ?_ | refine aT ?_); (try conv => whnf))
    rw [show i = Y.length by omega, List.take_length]
theorem refUnit_sat (a b : List Int) (k : Int) (hv : VW a b) (hk : 0 ≤ k ∧ k ≤ 3) : Sat cx.P cx.gl 48 [W2 a b, I k] (.one (I (unitV a b k))) := by
  have hb := kindL_bound hv k
  have hlen := kindL_len hv k
  have hs := refThrusts_sat a b hv
  have hr := refRadial_sat a b hv
  unfold unitV
  have h4 : k = 0 ∨ k = 1 ∨ k = 2 ∨ k = 3 := by omega
  rcases h4 with rfl | rfl | rfl | rfl
  · exact refUnit0_sat a b _ _ _ _ hs hr hb hlen
  · exact refUnit1_sat a b _ _ _ _ hs hr hb hlen
  · exact refUnit2_sat a b _ _ _ _ hs hr hb hlen
  · exact refUnit3_sat a b _ _ _ _ hs hr hb hlen
end Go.Proofs.Tryz

namespace Go.Proofs.Tryz
open Go.Fw Go.IntWalk Go.Plain
set_option maxRecDepth 100000
set_option maxHeartbeats 16000000
theorem lowN_eq (n d : Int) : lowN n d = lowNum n d := rfl
theorem lowD_eq (n d : Int) : lowD n d = lowDen n d := rfl
theorem isLowest_low {n d : Int} (hn : 0 ≤ n ∧ n ≤ 100000) (hd : 1 ≤ d ∧ d ≤ 100000) : Sat cx.P cx.gl 69 [F2 (lowN n d) (lowD n d)] (.one (Bo true)) := by
  have h1 := low_le hn.1 (show 0 < d by omega)
  have h2 := lowNum_nonneg (d := d) hn.1
  have h3 := lowDen_pos (n := n) (show 0 < d by omega)
  have := isLowest_sat (lowN n d) (lowD n d) ⟨by rw [lowN_eq]; omega, by rw [lowN_eq]; omega⟩ ⟨by rw [lowD_eq]; omega, by rw [lowD_eq]; omega⟩
  rwa [show decide (0 < lowD n d ∧ Int.gcd (lowN n d) (lowD n d) = 1) = true from decide_eq_true ⟨h3, low_gcd (by omega)⟩] at this
/-- More is never better. -/
theorem holdsF_mono {a b c d n m u l b' c' u' l' : Int} (hf : faultErr a b c d n m = 0) (hb : b ≤ b' ∧ b' ≤ 1000) (hc : 1 ≤ c' ∧ c' ≤ c) (hu : 0 ≤ u ∧ u ≤ u') (hl : 1 ≤ l' ∧ l' ≤ l) : holdsF a b' c' d n m u' l' ≤ holdsF a b c d n m u l := by
  obtain ⟨q1, q2, q3, q4, q5, q6, q7, q8⟩ := faultErr_zero hf
  have pos : ∀ x y : Int, 1 ≤ x → 1 ≤ y → 0 < x * y := fun x y hx hy => Int.mul_pos (by omega) (by omega)
  have s1 := low_sq (n := b * n) (d := c * m) (pos c m q3.1 q6.1) l u
  have s2 := low_sq (n := b' * n) (d := c' * m) (pos c' m hc.1 q6.1) l' u'
  have s3 := low_sq (n := a * n) (d := d * m) (pos d m q4.1 q6.1) l u
  have s4 := low_sq (n := a * n) (d := d * m) (pos d m q4.1 q6.1) l' u'
  have e1 : l * (c * m * (c * m)) < u * (b * n * (b * n)) → l' * (c' * m * (c' * m)) < u' * (b' * n * (b' * n)) :=
    exc_mono (by omega) hl.2 (Int.le_of_lt (pos c' m hc.1 q6.1)) (Int.mul_le_mul_of_nonneg_right hc.2 (by omega)) hu.1 hu.2 (Int.mul_nonneg q2.1 (by omega)) (Int.mul_le_mul_of_nonneg_right hb.1 (by omega))
  have e2 : l * (d * m * (d * m)) < u * (a * n * (a * n)) → l' * (d * m * (d * m)) < u' * (a * n * (a * n)) :=
    exc_mono (by omega) hl.2 (Int.le_of_lt (pos d m q4.1 q6.1)) (Int.le_refl _) hu.1 hu.2 (Int.mul_nonneg q1.1 (by omega)) (Int.le_refl _)
  -- what exceeds at the lower end exceeds at the upper one
  have e3 : l * (d * m * (d * m)) < u * (a * n * (a * n)) → l * (c * m * (c * m)) < u * (b * n * (b * n)) :=
    exc_mono (by omega) (Int.le_refl l) (Int.le_of_lt (pos c m q3.1 q6.1)) (Int.mul_le_mul_of_nonneg_right q8 (by omega)) hu.1 (Int.le_refl u) (Int.mul_nonneg q1.1 (by omega)) (Int.mul_le_mul_of_nonneg_right q7 (by omega))
  unfold holdsF holdsV
  rw [← lowN_eq, ← lowD_eq] at s1 s2 s3 s4
  (repeat' split) <;> first | omega | (exfalso; simp_all)
end Go.Proofs.Tryz
