/- Parts of the proof, joined. -/
import Derived.Test.YtflcnhmckeiacaaGreatDoorWe
import Derived.Test.YtflcnhmckeiacaaGreatDoorD
import Derived.Test.YtflcnhmckeiacaaGreatDoorWc
namespace Go.Proofs.Tryz
open Go.Fw Go.IntWalk Go.Plain
set_option maxRecDepth 100000
set_option maxHeartbeats 8000000
theorem wideOf0_sat {s : Int} {l : List Int} (hl : l.length ≤ 4294967296) (hd : Dg l) (hz : dval l = 0) : Sat cx.P cx.gl 103 [I s, L l] (.one (wd 0)) := by
  have h := wideOf1_sat s l hl
  rw [trim_eq hd, hz] at h
  simp only [Int.toNat_zero, digs_zero, if_true] at h
  unfold wd
  simp only [Int.sign_zero, Int.natAbs_zero, digs_zero]
  exact h
theorem wideMul_core (sx sy : Int) (a b : List Int) (ha : Dg a) (hb : Dg b) (hla : a.length ≤ 100000) (hlb : b.length ≤ 100000) (_r : SV) (hs : (sx = 0 ∨ sx = 1 ∨ sx = -1) ∧ (sy = 0 ∨ sy = 1 ∨ sy = -1))
    (hw : Sat cx.P cx.gl 103 [I (sx * sy), L (mulOut a b a.length)] (.one (wd (sx * sy * (dval a * dval b))))) : Sat cx.P cx.gl 86 [Wd sx a, Wd sy b] (.one (wd (sx * sy * (dval a * dval b)))) := by
  have hss : -1 ≤ sx * sy ∧ sx * sy ≤ 1 := by
    obtain ⟨h1, h2⟩ := hs
    rcases h1 with rfl | rfl | rfl <;> rcases h2 with rfl | rfl | rfl <;> decide
  refine Sat_of_awp (fn := f86) cx_ok (by kernel_rfl) (by kernel_rfl) rfl (by kernel_rfl) (Nat.le_of_ble_eq_true rfl) ?_
  repeat ((first | refine oP rfl ?_ | refine rP rfl (fun _ z => z) ?_ | (refine kO 1 rfl ?_; first | refine rAdd rfl rfl rfl (by omega) ?_ | refine rSub rfl rfl rfl (by omega) ?_ | refine rMul rfl rfl rfl (by omega) ?_ | refine rQuo rfl rfl rfl (by omega) ?_ | refine rRem rfl rfl rfl (by omega) ?_ | refine rQuo' rfl rfl rfl (by omega) ?_ | refine rRem' rfl rfl rfl (by omega) ?_ | refine rG (fun _ z => z) ?_) | (refine kO 2 rfl ?_; first | refine rNeg rfl rfl (by omega) ?_ | refine rG (fun _ z => z) ?_) | (refine kO 3 rfl ?_; first | refine rLdr rfl rfl rfl rfl rfl ?_ | refine rLdb rfl rfl rfl rfl rfl rfl rfl ?_ | refine rLdi rfl rfl rfl rfl rfl rfl (by first | omega | decide | exact Nat.le_of_ble_eq_true rfl | (dsimp only [SC.len]; omega) | (simp; done) | (simp; omega) | omega) ?_ | refine rG (fun _ z => z) ?_ | refine rG (fun _ z => ⟨_, rfl, z⟩) ?_ | refine rG (fun _ z => ⟨_, (by assumption), z⟩) ?_) | (refine kO 4 rfl ?_; first | refine rSti rfl rfl rfl rfl rfl rfl (by first | omega | decide | exact Nat.le_of_ble_eq_true rfl | (dsimp only [SC.len]; omega) | (simp; done) | (simp; omega) | omega) ?_ | refine rG (fun _ z => z) ?_) | (refine kO 5 rfl ?_; first | refine rIdN rfl rfl rfl rfl rfl rfl rfl (by first | omega | decide | exact Nat.le_of_ble_eq_true rfl | (dsimp only [SC.len]; omega) | (simp; done) | (simp; omega) | omega) ?_ | refine rIdx rfl rfl rfl rfl rfl rfl rfl (by first | omega | decide | exact Nat.le_of_ble_eq_true rfl | (dsimp only [SC.len]; omega) | (simp; done) | (simp; omega) | omega) ?_ | refine rIdoN rfl rfl rfl rfl rfl rfl rfl rfl (by first | omega | decide | exact Nat.le_of_ble_eq_true rfl | (dsimp only [SC.len]; omega) | (simp; done) | (simp; omega) | omega) ?_ | refine rIdo rfl rfl rfl rfl rfl rfl rfl rfl (by first | omega | decide | exact Nat.le_of_ble_eq_true rfl | (dsimp only [SC.len]; omega) | (simp; done) | (simp; omega) | omega) ?_ | refine rIdvN rfl rfl rfl rfl rfl rfl (by first | assumption | rfl) rfl ?_) | (refine kO 6 rfl ?_; first | refine rLen rfl rfl rfl rfl rfl rfl ?_ | refine rLenv rfl rfl rfl rfl rfl rfl ?_ | refine rLeno rfl rfl rfl rfl rfl rfl rfl ?_ | refine rLenov rfl rfl rfl rfl rfl rfl rfl ?_ | refine rG (fun _ z => z) ?_) | (refine kO 8 rfl ?_; first | refine rSlH rfl rfl rfl rfl rfl rfl rfl (by omega) ?_ | refine rSlL rfl rfl rfl rfl rfl rfl rfl (by omega) ?_ | refine rG (fun _ z => z) ?_) | refine oN ?_ | refine aS ?_ | refine aR ?_ | refine aK ?_ | refine aX ?_ | refine aB ?_ | refine aT ?_ | refine aC rfl ?_ | refine bT ?_ | refine bF ?_ | refine bPt (by omega) ?_ | refine bPf (by omega) ?_ | refine aL ?_ | refine aE ?_ | refine oY rfl rfl rfl ?_ | refine oZ rfl rfl rfl ?_ | refine oO rfl rfl rfl ?_ | refine oIt rfl rfl rfl (by omega) ?_ | refine oIf rfl rfl rfl (by omega) ?_ | refine oUt rfl rfl rfl (by omega) ?_ | refine oUf rfl rfl rfl (by omega) ?_ | refine dI (by kernel_rfl) ?_ | refine rG (fun _ z => ⟨(by (first | omega | decide | rfl | exact lnS (by omega) | exact lnN (by decide) | exact lnN (by omega) | exact lnC (by omega) | exact lvS (by omega) | exact lvN (by decide) | exact lvC (by omega) | exact uvS rfl | exact uvN rfl | ((try unfold SC.len); (try unfold SC.uni); (try unfold LIM); (try simp); (try omega); done) | omega)), z⟩) ?_ | refine rG (fun _ z => ⟨(by (first | omega | decide | rfl | exact lnS (by omega) | exact lnN (by decide) | exact lnN (by omega) | exact lnC (by omega) | exact lvS (by omega) | exact lvN (by decide) | exact lvC (by omega) | exact uvS rfl | exact uvN rfl | ((try unfold SC.len); (try unfold SC.uni); (try unfold LIM); (try simp); (try omega); done) | omega)), (by (first | omega | decide | rfl | exact lnS (by omega) | exact lnN (by decide) | exact lnN (by omega) | exact lnC (by omega) | exact lvS (by omega) | exact lvN (by decide) | exact lvC (by omega) | exact uvS rfl | exact uvN rfl | ((try unfold SC.len); (try unfold SC.uni); (try unfold LIM); (try simp); (try omega); done) | omega)), z⟩) ?_); (try conv => whnf))
  refine loop_ind (ι := Nat) (fun i => i ≤ a.length) (fun i => a.length - i) (fun i => ⟨[(2, pP 0), (3, pP 1), (4, pP 2), (5, pO 3), (6, vI i)], [(0, some (.box 106 [.st (J sx), .st (.ints a)])), (1, some (.box 106 [.st (J sy), .st (.ints b)])), (2, some (.box 106 [.st (J 0), .nil])), (3, some (.row true 1 (.ints (mulOut a b i))))], 4⟩) 0 (canon_auto (by rw [show ((a.length : Int) + (b.length : Int) + 1).toNat = a.length + b.length + 1 by omega]; kernel_rfl)) (Nat.zero_le _) ?_
  intro i hi
  have d1 := mulOut_len a b i
  repeat ((first | refine oP rfl ?_ | refine rP rfl (fun _ z => z) ?_ | (refine kO 1 rfl ?_; first | refine rAdd rfl rfl rfl (by omega) ?_ | refine rSub rfl rfl rfl (by omega) ?_ | refine rMul rfl rfl rfl (by omega) ?_ | refine rQuo rfl rfl rfl (by omega) ?_ | refine rRem rfl rfl rfl (by omega) ?_ | refine rQuo' rfl rfl rfl (by omega) ?_ | refine rRem' rfl rfl rfl (by omega) ?_ | refine rG (fun _ z => z) ?_) | (refine kO 2 rfl ?_; first | refine rNeg rfl rfl (by omega) ?_ | refine rG (fun _ z => z) ?_) | (refine kO 3 rfl ?_; first | refine rLdr rfl rfl rfl rfl rfl ?_ | refine rLdb rfl rfl rfl rfl rfl rfl rfl ?_ | refine rLdi rfl rfl rfl rfl rfl rfl (by first | omega | decide | exact Nat.le_of_ble_eq_true rfl | (dsimp only [SC.len]; omega) | (simp; done) | (simp; omega) | omega) ?_ | refine rG (fun _ z => z) ?_ | refine rG (fun _ z => ⟨_, rfl, z⟩) ?_ | refine rG (fun _ z => ⟨_, (by assumption), z⟩) ?_) | (refine kO 4 rfl ?_; first | refine rSti rfl rfl rfl rfl rfl rfl (by first | omega | decide | exact Nat.le_of_ble_eq_true rfl | (dsimp only [SC.len]; omega) | (simp; done) | (simp; omega) | omega) ?_ | refine rG (fun _ z => z) ?_) | (refine kO 5 rfl ?_; first | refine rIdN rfl rfl rfl rfl rfl rfl rfl (by first | omega | decide | exact Nat.le_of_ble_eq_true rfl | (dsimp only [SC.len]; omega) | (simp; done) | (simp; omega) | omega) ?_ | refine rIdx rfl rfl rfl rfl rfl rfl rfl (by first | omega | decide | exact Nat.le_of_ble_eq_true rfl | (dsimp only [SC.len]; omega) | (simp; done) | (simp; omega) | omega) ?_ | refine rIdoN rfl rfl rfl rfl rfl rfl rfl rfl (by first | omega | decide | exact Nat.le_of_ble_eq_true rfl | (dsimp only [SC.len]; omega) | (simp; done) | (simp; omega) | omega) ?_ | refine rIdo rfl rfl rfl rfl rfl rfl rfl rfl (by first | omega | decide | exact Nat.le_of_ble_eq_true rfl | (dsimp only [SC.len]; omega) | (simp; done) | (simp; omega) | omega) ?_ | refine rIdvN rfl rfl rfl rfl rfl rfl (by first | assumption | rfl) rfl ?_) | (refine kO 6 rfl ?_; first | refine rLen rfl rfl rfl rfl rfl rfl ?_ | refine rLenv rfl rfl rfl rfl rfl rfl ?_ | refine rLeno rfl rfl rfl rfl rfl rfl rfl ?_ | refine rLenov rfl rfl rfl rfl rfl rfl rfl ?_ | refine rG (fun _ z => z) ?_) | (refine kO 8 rfl ?_; first | refine rSlH rfl rfl rfl rfl rfl rfl rfl (by omega) ?_ | refine rSlL rfl rfl rfl rfl rfl rfl rfl (by omega) ?_ | refine rG (fun _ z => z) ?_) | refine oN ?_ | refine aS ?_ | refine aR ?_ | refine aK ?_ | refine aX ?_ | refine aB ?_ | refine aT ?_ | refine aC rfl ?_ | refine bT ?_ | refine bF ?_ | refine bPt (by omega) ?_ | refine bPf (by omega) ?_ | refine aL ?_ | refine aE ?_ | refine oY rfl rfl rfl ?_ | refine oZ rfl rfl rfl ?_ | refine oO rfl rfl rfl ?_ | refine oIt rfl rfl rfl (by omega) ?_ | refine oIf rfl rfl rfl (by omega) ?_ | refine oUt rfl rfl rfl (by omega) ?_ | refine oUf rfl rfl rfl (by omega) ?_ | refine dI (by kernel_rfl) ?_ | refine rG (fun _ z => ⟨(by (first | omega | decide | rfl | exact lnS (by omega) | exact lnN (by decide) | exact lnN (by omega) | exact lnC (by omega) | exact lvS (by omega) | exact lvN (by decide) | exact lvC (by omega) | exact uvS rfl | exact uvN rfl | ((try unfold SC.len); (try unfold SC.uni); (try unfold LIM); (try simp); (try omega); done) | omega)), z⟩) ?_ | refine rG (fun _ z => ⟨(by (first | omega | decide | rfl | exact lnS (by omega) | exact lnN (by decide) | exact lnN (by omega) | exact lnC (by omega) | exact lvS (by omega) | exact lvN (by decide) | exact lvC (by omega) | exact uvS rfl | exact uvN rfl | ((try unfold SC.len); (try unfold SC.uni); (try unfold LIM); (try simp); (try omega); done) | omega)), (by (first | omega | decide | rfl | exact lnS (by omega) | exact lnN (by decide) | exact lnN (by omega) | exact lnC (by omega) | exact lvS (by omega) | exact lvN (by decide) | exact lvC (by omega) | exact uvS rfl | exact uvN rfl | ((try unfold SC.len); (try unfold SC.uni); (try unfold LIM); (try simp); (try omega); done) | omega)), z⟩) ?_); (try conv => whnf))
  ((first | refine brp (fun h => ?_) (fun h => ?_) | refine opsA_ifp rfl rfl rfl (fun h => ?_) (fun h => ?_) | refine opsA_unlessp rfl rfl rfl (fun h => ?_) (fun h => ?_)) <;> (try conv => whnf))
  · have hlt : i < a.length := by omega
    obtain ⟨m1, m2, m3⟩ := mulOut_spec ha hb i hi
    have g0 := ha.get i
    repeat ((first | refine oP rfl ?_ | refine rP rfl (fun _ z => z) ?_ | (refine kO 1 rfl ?_; first | refine rAdd rfl rfl rfl (by omega) ?_ | refine rSub rfl rfl rfl (by omega) ?_ | refine rMul rfl rfl rfl (by omega) ?_ | refine rQuo rfl rfl rfl (by omega) ?_ | refine rRem rfl rfl rfl (by omega) ?_ | refine rQuo' rfl rfl rfl (by omega) ?_ | refine rRem' rfl rfl rfl (by omega) ?_ | refine rG (fun _ z => z) ?_) | (refine kO 2 rfl ?_; first | refine rNeg rfl rfl (by omega) ?_ | refine rG (fun _ z => z) ?_) | (refine kO 3 rfl ?_; first | refine rLdr rfl rfl rfl rfl rfl ?_ | refine rLdb rfl rfl rfl rfl rfl rfl rfl ?_ | refine rLdi rfl rfl rfl rfl rfl rfl (by first | omega | decide | exact Nat.le_of_ble_eq_true rfl | (dsimp only [SC.len]; omega) | (simp; done) | (simp; omega) | omega) ?_ | refine rG (fun _ z => z) ?_ | refine rG (fun _ z => ⟨_, rfl, z⟩) ?_ | refine rG (fun _ z => ⟨_, (by assumption), z⟩) ?_) | (refine kO 4 rfl ?_; first | refine rSti rfl rfl rfl rfl rfl rfl (by first | omega | decide | exact Nat.le_of_ble_eq_true rfl | (dsimp only [SC.len]; omega) | (simp; done) | (simp; omega) | omega) ?_ | refine rG (fun _ z => z) ?_) | (refine kO 5 rfl ?_; first | refine rIdN rfl rfl rfl rfl rfl rfl rfl (by first | omega | decide | exact Nat.le_of_ble_eq_true rfl | (dsimp only [SC.len]; omega) | (simp; done) | (simp; omega) | omega) ?_ | refine rIdx rfl rfl rfl rfl rfl rfl rfl (by first | omega | decide | exact Nat.le_of_ble_eq_true rfl | (dsimp only [SC.len]; omega) | (simp; done) | (simp; omega) | omega) ?_ | refine rIdoN rfl rfl rfl rfl rfl rfl rfl rfl (by first | omega | decide | exact Nat.le_of_ble_eq_true rfl | (dsimp only [SC.len]; omega) | (simp; done) | (simp; omega) | omega) ?_ | refine rIdo rfl rfl rfl rfl rfl rfl rfl rfl (by first | omega | decide | exact Nat.le_of_ble_eq_true rfl | (dsimp only [SC.len]; omega) | (simp; done) | (simp; omega) | omega) ?_ | refine rIdvN rfl rfl rfl rfl rfl rfl (by first | assumption | rfl) rfl ?_) | (refine kO 6 rfl ?_; first | refine rLen rfl rfl rfl rfl rfl rfl ?_ | refine rLenv rfl rfl rfl rfl rfl rfl ?_ | refine rLeno rfl rfl rfl rfl rfl rfl rfl ?_ | refine rLenov rfl rfl rfl rfl rfl rfl rfl ?_ | refine rG (fun _ z => z) ?_) | (refine kO 8 rfl ?_; first | refine rSlH rfl rfl rfl rfl rfl rfl rfl (by omega) ?_ | refine rSlL rfl rfl rfl rfl rfl rfl rfl (by omega) ?_ | refine rG (fun _ z => z) ?_) | refine oN ?_ | refine aS ?_ | refine aR ?_ | refine aK ?_ | refine aX ?_ | refine aB ?_ | refine aT ?_ | refine aC rfl ?_ | refine bT ?_ | refine bF ?_ | refine bPt (by omega) ?_ | refine bPf (by omega) ?_ | refine aL ?_ | refine aE ?_ | refine oY rfl rfl rfl ?_ | refine oZ rfl rfl rfl ?_ | refine oO rfl rfl rfl ?_ | refine oIt rfl rfl rfl (by omega) ?_ | refine oIf rfl rfl rfl (by omega) ?_ | refine oUt rfl rfl rfl (by omega) ?_ | refine oUf rfl rfl rfl (by omega) ?_ | refine dI (by kernel_rfl) ?_ | refine rG (fun _ z => ⟨(by (first | omega | decide | rfl | exact lnS (by omega) | exact lnN (by decide) | exact lnN (by omega) | exact lnC (by omega) | exact lvS (by omega) | exact lvN (by decide) | exact lvC (by omega) | exact uvS rfl | exact uvN rfl | ((try unfold SC.len); (try unfold SC.uni); (try unfold LIM); (try simp); (try omega); done) | omega)), z⟩) ?_ | refine rG (fun _ z => ⟨(by (first | omega | decide | rfl | exact lnS (by omega) | exact lnN (by decide) | exact lnN (by omega) | exact lnC (by omega) | exact lvS (by omega) | exact lvN (by decide) | exact lvC (by omega) | exact uvS rfl | exact uvN rfl | ((try unfold SC.len); (try unfold SC.uni); (try unfold LIM); (try simp); (try omega); done) | omega)), (by (first | omega | decide | rfl | exact lnS (by omega) | exact lnN (by decide) | exact lnN (by omega) | exact lnC (by omega) | exact lvS (by omega) | exact lvN (by decide) | exact lvC (by omega) | exact uvS rfl | exact uvN rfl | ((try unfold SC.len); (try unfold SC.uni); (try unfold LIM); (try simp); (try omega); done) | omega)), z⟩) ?_); (try conv => whnf))
    refine loop_ind (ι := Nat) (fun k => k ≤ b.length) (fun k => b.length - k) (fun k => ⟨[(2, pP 0), (3, pP 1), (4, pP 2), (5, pO 3), (6, vI i), (7, vI (mulIn (mulOut a b i) i (a.getD i 0) b k).2), (8, vI k)], [(0, some (.box 106 [.st (J sx), .st (.ints a)])), (1, some (.box 106 [.st (J sy), .st (.ints b)])), (2, some (.box 106 [.st (J 0), .nil])), (3, some (.row true 1 (.ints (mulIn (mulOut a b i) i (a.getD i 0) b k).1)))], 4⟩) 0 (canon_auto (by kernel_rfl)) (Nat.zero_le _) ?_
    intro k hk
    obtain ⟨n1, n2, n3, n4⟩ := mulIn_spec (i := i) (x := a.getD i 0) m1 hb g0 k (by omega)
    have d2 := mulIn_len (mulOut a b i) i (a.getD i 0) b k
    have g1 := n1.get (i + k)
    have g2 := hb.get k
    have g3 := prod_digit g0 g2
    repeat ((first | refine oP rfl ?_ | refine rP rfl (fun _ z => z) ?_ | (refine kO 1 rfl ?_; first | refine rAdd rfl rfl rfl (by omega) ?_ | refine rSub rfl rfl rfl (by omega) ?_ | refine rMul rfl rfl rfl (by omega) ?_ | refine rQuo rfl rfl rfl (by omega) ?_ | refine rRem rfl rfl rfl (by omega) ?_ | refine rQuo' rfl rfl rfl (by omega) ?_ | refine rRem' rfl rfl rfl (by omega) ?_ | refine rG (fun _ z => z) ?_) | (refine kO 2 rfl ?_; first | refine rNeg rfl rfl (by omega) ?_ | refine rG (fun _ z => z) ?_) | (refine kO 3 rfl ?_; first | refine rLdr rfl rfl rfl rfl rfl ?_ | refine rLdb rfl rfl rfl rfl rfl rfl rfl ?_ | refine rLdi rfl rfl rfl rfl rfl rfl (by first | omega | decide | exact Nat.le_of_ble_eq_true rfl | (dsimp only [SC.len]; omega) | (simp; done) | (simp; omega) | omega) ?_ | refine rG (fun _ z => z) ?_ | refine rG (fun _ z => ⟨_, rfl, z⟩) ?_ | refine rG (fun _ z => ⟨_, (by assumption), z⟩) ?_) | (refine kO 4 rfl ?_; first | refine rSti rfl rfl rfl rfl rfl rfl (by first | omega | decide | exact Nat.le_of_ble_eq_true rfl | (dsimp only [SC.len]; omega) | (simp; done) | (simp; omega) | omega) ?_ | refine rG (fun _ z => z) ?_) | (refine kO 5 rfl ?_; first | refine rIdN rfl rfl rfl rfl rfl rfl rfl (by first | omega | decide | exact Nat.le_of_ble_eq_true rfl | (dsimp only [SC.len]; omega) | (simp; done) | (simp; omega) | omega) ?_ | refine rIdx rfl rfl rfl rfl rfl rfl rfl (by first | omega | decide | exact Nat.le_of_ble_eq_true rfl | (dsimp only [SC.len]; omega) | (simp; done) | (simp; omega) | omega) ?_ | refine rIdoN rfl rfl rfl rfl rfl rfl rfl rfl (by first | omega | decide | exact Nat.le_of_ble_eq_true rfl | (dsimp only [SC.len]; omega) | (simp; done) | (simp; omega) | omega) ?_ | refine rIdo rfl rfl rfl rfl rfl rfl rfl rfl (by first | omega | decide | exact Nat.le_of_ble_eq_true rfl | (dsimp only [SC.len]; omega) | (simp; done) | (simp; omega) | omega) ?_ | refine rIdvN rfl rfl rfl rfl rfl rfl (by first | assumption | rfl) rfl ?_) | (refine kO 6 rfl ?_; first | refine rLen rfl rfl rfl rfl rfl rfl ?_ | refine rLenv rfl rfl rfl rfl rfl rfl ?_ | refine rLeno rfl rfl rfl rfl rfl rfl rfl ?_ | refine rLenov rfl rfl rfl rfl rfl rfl rfl ?_ | refine rG (fun _ z => z) ?_) | (refine kO 8 rfl ?_; first | refine rSlH rfl rfl rfl rfl rfl rfl rfl (by omega) ?_ | refine rSlL rfl rfl rfl rfl rfl rfl rfl (by omega) ?_ | refine rG (fun _ z => z) ?_) | refine oN ?_ | refine aS ?_ | refine aR ?_ | refine aK ?_ | refine aX ?_ | refine aB ?_ | refine aT ?_ | refine aC rfl ?_ | refine bT ?_ | refine bF ?_ | refine bPt (by omega) ?_ | refine bPf (by omega) ?_ | refine aL ?_ | refine aE ?_ | refine oY rfl rfl rfl ?_ | refine oZ rfl rfl rfl ?_ | refine oO rfl rfl rfl ?_ | refine oIt rfl rfl rfl (by omega) ?_ | refine oIf rfl rfl rfl (by omega) ?_ | refine oUt rfl rfl rfl (by omega) ?_ | refine oUf rfl rfl rfl (by omega) ?_ | refine dI (by kernel_rfl) ?_ | refine rG (fun _ z => ⟨(by (first | omega | decide | rfl | exact lnS (by omega) | exact lnN (by decide) | exact lnN (by omega) | exact lnC (by omega) | exact lvS (by omega) | exact lvN (by decide) | exact lvC (by omega) | exact uvS rfl | exact uvN rfl | ((try unfold SC.len); (try unfold SC.uni); (try unfold LIM); (try simp); (try omega); done) | omega)), z⟩) ?_ | refine rG (fun _ z => ⟨(by (first | omega | decide | rfl | exact lnS (by omega) | exact lnN (by decide) | exact lnN (by omega) | exact lnC (by omega) | exact lvS (by omega) | exact lvN (by decide) | exact lvC (by omega) | exact uvS rfl | exact uvN rfl | ((try unfold SC.len); (try unfold SC.uni); (try unfold LIM); (try simp); (try omega); done) | omega)), (by (first | omega | decide | rfl | exact lnS (by omega) | exact lnN (by decide) | exact lnN (by omega) | exact lnC (by omega) | exact lvS (by omega) | exact lvN (by decide) | exact lvC (by omega) | exact uvS rfl | exact uvN rfl | ((try unfold SC.len); (try unfold SC.uni); (try unfold LIM); (try simp); (try omega); done) | omega)), z⟩) ?_); (try conv => whnf))
    ((first | refine brp (fun h => ?_) (fun h => ?_) | refine opsA_ifp rfl rfl rfl (fun h => ?_) (fun h => ?_) | refine opsA_unlessp rfl rfl rfl (fun h => ?_) (fun h => ?_)) <;> (try conv => whnf))
    · have hkt : k < b.length := by omega
      repeat ((first | refine oP rfl ?_ | refine rP rfl (fun _ z => z) ?_ | (refine kO 1 rfl ?_; first | refine rAdd rfl rfl rfl (by omega) ?_ | refine rSub rfl rfl rfl (by omega) ?_ | refine rMul rfl rfl rfl (by omega) ?_ | refine rQuo rfl rfl rfl (by omega) ?_ | refine rRem rfl rfl rfl (by omega) ?_ | refine rQuo' rfl rfl rfl (by omega) ?_ | refine rRem' rfl rfl rfl (by omega) ?_ | refine rG (fun _ z => z) ?_) | (refine kO 2 rfl ?_; first | refine rNeg rfl rfl (by omega) ?_ | refine rG (fun _ z => z) ?_) | (refine kO 3 rfl ?_; first | refine rLdr rfl rfl rfl rfl rfl ?_ | refine rLdb rfl rfl rfl rfl rfl rfl rfl ?_ | refine rLdi rfl rfl rfl rfl rfl rfl (by first | omega | decide | exact Nat.le_of_ble_eq_true rfl | (dsimp only [SC.len]; omega) | (simp; done) | (simp; omega) | omega) ?_ | refine rG (fun _ z => z) ?_ | refine rG (fun _ z => ⟨_, rfl, z⟩) ?_ | refine rG (fun _ z => ⟨_, (by assumption), z⟩) ?_) | (refine kO 4 rfl ?_; first | refine rSti rfl rfl rfl rfl rfl rfl (by first | omega | decide | exact Nat.le_of_ble_eq_true rfl | (dsimp only [SC.len]; omega) | (simp; done) | (simp; omega) | omega) ?_ | refine rG (fun _ z => z) ?_) | (refine kO 5 rfl ?_; first | refine rIdN rfl rfl rfl rfl rfl rfl rfl (by first | omega | decide | exact Nat.le_of_ble_eq_true rfl | (dsimp only [SC.len]; omega) | (simp; done) | (simp; omega) | omega) ?_ | refine rIdx rfl rfl rfl rfl rfl rfl rfl (by first | omega | decide | exact Nat.le_of_ble_eq_true rfl | (dsimp only [SC.len]; omega) | (simp; done) | (simp; omega) | omega) ?_ | refine rIdoN rfl rfl rfl rfl rfl rfl rfl rfl (by first | omega | decide | exact Nat.le_of_ble_eq_true rfl | (dsimp only [SC.len]; omega) | (simp; done) | (simp; omega) | omega) ?_ | refine rIdo rfl rfl rfl rfl rfl rfl rfl rfl (by first | omega | decide | exact Nat.le_of_ble_eq_true rfl | (dsimp only [SC.len]; omega) | (simp; done) | (simp; omega) | omega) ?_ | refine rIdvN rfl rfl rfl rfl rfl rfl (by first | assumption | rfl) rfl ?_) | (refine kO 6 rfl ?_; first | refine rLen rfl rfl rfl rfl rfl rfl ?_ | refine rLenv rfl rfl rfl rfl rfl rfl ?_ | refine rLeno rfl rfl rfl rfl rfl rfl rfl ?_ | refine rLenov rfl rfl rfl rfl rfl rfl rfl ?_ | refine rG (fun _ z => z) ?_) | (refine kO 8 rfl ?_; first | refine rSlH rfl rfl rfl rfl rfl rfl rfl (by omega) ?_ | refine rSlL rfl rfl rfl rfl rfl rfl rfl (by omega) ?_ | refine rG (fun _ z => z) ?_) | refine oN ?_ | refine aS ?_ | refine aR ?_ | refine aK ?_ | refine aX ?_ | refine aB ?_ | refine aT ?_ | refine aC rfl ?_ | refine bT ?_ | refine bF ?_ | refine bPt (by omega) ?_ | refine bPf (by omega) ?_ | refine aL ?_ | refine aE ?_ | refine oY rfl rfl rfl ?_ | refine oZ rfl rfl rfl ?_ | refine oO rfl rfl rfl ?_ | refine oIt rfl rfl rfl (by omega) ?_ | refine oIf rfl rfl rfl (by omega) ?_ | refine oUt rfl rfl rfl (by omega) ?_ | refine oUf rfl rfl rfl (by omega) ?_ | refine dI (by kernel_rfl) ?_ | refine rG (fun _ z => ⟨(by (first | omega | decide | rfl | exact lnS (by omega) | exact lnN (by decide) | exact lnN (by omega) | exact lnC (by omega) | exact lvS (by omega) | exact lvN (by decide) | exact lvC (by omega) | exact uvS rfl | exact uvN rfl | ((try unfold SC.len); (try unfold SC.uni); (try unfold LIM); (try simp); (try omega); done) | omega)), z⟩) ?_ | refine rG (fun _ z => ⟨(by (first | omega | decide | rfl | exact lnS (by omega) | exact lnN (by decide) | exact lnN (by omega) | exact lnC (by omega) | exact lvS (by omega) | exact lvN (by decide) | exact lvC (by omega) | exact uvS rfl | exact uvN rfl | ((try unfold SC.len); (try unfold SC.uni); (try unfold LIM); (try simp); (try omega); done) | omega)), (by (first | omega | decide | rfl | exact lnS (by omega) | exact lnN (by decide) | exact lnN (by omega) | exact lnC (by omega) | exact lvS (by omega) | exact lvN (by decide) | exact lvC (by omega) | exact uvS rfl | exact uvN rfl | ((try unfold SC.len); (try unfold SC.uni); (try unfold LIM); (try simp); (try omega); done) | omega)), z⟩) ?_); (try conv => whnf))
      exact ⟨k + 1, hkt, by omega, canon_auto (by kernel_rfl)⟩
    · obtain rfl : k = b.length := by omega
      have g4 := n1.get (i + b.length)
      repeat ((first | refine oP rfl ?_ | refine rP rfl (fun _ z => z) ?_ | (refine kO 1 rfl ?_; first | refine rAdd rfl rfl rfl (by omega) ?_ | refine rSub rfl rfl rfl (by omega) ?_ | refine rMul rfl rfl rfl (by omega) ?_ | refine rQuo rfl rfl rfl (by omega) ?_ | refine rRem rfl rfl rfl (by omega) ?_ | refine rQuo' rfl rfl rfl (by omega) ?_ | refine rRem' rfl rfl rfl (by omega) ?_ | refine rG (fun _ z => z) ?_) | (refine kO 2 rfl ?_; first | refine rNeg rfl rfl (by omega) ?_ | refine rG (fun _ z => z) ?_) | (refine kO 3 rfl ?_; first | refine rLdr rfl rfl rfl rfl rfl ?_ | refine rLdb rfl rfl rfl rfl rfl rfl rfl ?_ | refine rLdi rfl rfl rfl rfl rfl rfl (by first | omega | decide | exact Nat.le_of_ble_eq_true rfl | (dsimp only [SC.len]; omega) | (simp; done) | (simp; omega) | omega) ?_ | refine rG (fun _ z => z) ?_ | refine rG (fun _ z => ⟨_, rfl, z⟩) ?_ | refine rG (fun _ z => ⟨_, (by assumption), z⟩) ?_) | (refine kO 4 rfl ?_; first | refine rSti rfl rfl rfl rfl rfl rfl (by first | omega | decide | exact Nat.le_of_ble_eq_true rfl | (dsimp only [SC.len]; omega) | (simp; done) | (simp; omega) | omega) ?_ | refine rG (fun _ z => z) ?_) | (refine kO 5 rfl ?_; first | refine rIdN rfl rfl rfl rfl rfl rfl rfl (by first | omega | decide | exact Nat.le_of_ble_eq_true rfl | (dsimp only [SC.len]; omega) | (simp; done) | (simp; omega) | omega) ?_ | refine rIdx rfl rfl rfl rfl rfl rfl rfl (by first | omega | decide | exact Nat.le_of_ble_eq_true rfl | (dsimp only [SC.len]; omega) | (simp; done) | (simp; omega) | omega) ?_ | refine rIdoN rfl rfl rfl rfl rfl rfl rfl rfl (by first | omega | decide | exact Nat.le_of_ble_eq_true rfl | (dsimp only [SC.len]; omega) | (simp; done) | (simp; omega) | omega) ?_ | refine rIdo rfl rfl rfl rfl rfl rfl rfl rfl (by first | omega | decide | exact Nat.le_of_ble_eq_true rfl | (dsimp only [SC.len]; omega) | (simp; done) | (simp; omega) | omega) ?_ | refine rIdvN rfl rfl rfl rfl rfl rfl (by first | assumption | rfl) rfl ?_) | (refine kO 6 rfl ?_; first | refine rLen rfl rfl rfl rfl rfl rfl ?_ | refine rLenv rfl rfl rfl rfl rfl rfl ?_ | refine rLeno rfl rfl rfl rfl rfl rfl rfl ?_ | refine rLenov rfl rfl rfl rfl rfl rfl rfl ?_ | refine rG (fun _ z => z) ?_) | (refine kO 8 rfl ?_; first | refine rSlH rfl rfl rfl rfl rfl rfl rfl (by omega) ?_ | refine rSlL rfl rfl rfl rfl rfl rfl rfl (by omega) ?_ | refine rG (fun _ z => z) ?_) | refine oN ?_ | refine aS ?_ | refine aR ?_ | refine aK ?_ | refine aX ?_ | refine aB ?_ | refine aT ?_ | refine aC rfl ?_ | refine bT ?_ | refine bF ?_ | refine bPt (by omega) ?_ | refine bPf (by omega) ?_ | refine aL ?_ | refine aE ?_ | refine oY rfl rfl rfl ?_ | refine oZ rfl rfl rfl ?_ | refine oO rfl rfl rfl ?_ | refine oIt rfl rfl rfl (by omega) ?_ | refine oIf rfl rfl rfl (by omega) ?_ | refine oUt rfl rfl rfl (by omega) ?_ | refine oUf rfl rfl rfl (by omega) ?_ | refine dI (by kernel_rfl) ?_ | refine rG (fun _ z => ⟨(by (first | omega | decide | rfl | exact lnS (by omega) | exact lnN (by decide) | exact lnN (by omega) | exact lnC (by omega) | exact lvS (by omega) | exact lvN (by decide) | exact lvC (by omega) | exact uvS rfl | exact uvN rfl | ((try unfold SC.len); (try unfold SC.uni); (try unfold LIM); (try simp); (try omega); done) | omega)), z⟩) ?_ | refine rG (fun _ z => ⟨(by (first | omega | decide | rfl | exact lnS (by omega) | exact lnN (by decide) | exact lnN (by omega) | exact lnC (by omega) | exact lvS (by omega) | exact lvN (by decide) | exact lvC (by omega) | exact uvS rfl | exact uvN rfl | ((try unfold SC.len); (try unfold SC.uni); (try unfold LIM); (try simp); (try omega); done) | omega)), (by (first | omega | decide | rfl | exact lnS (by omega) | exact lnN (by decide) | exact lnN (by omega) | exact lnC (by omega) | exact lvS (by omega) | exact lvN (by decide) | exact lvC (by omega) | exact uvS rfl | exact uvN rfl | ((try unfold SC.len); (try unfold SC.uni); (try unfold LIM); (try simp); (try omega); done) | omega)), z⟩) ?_); (try conv => whnf))
      exact ⟨i + 1, hlt, by omega, canon_auto (by kernel_rfl)⟩
  · obtain rfl : i = a.length := by omega
    repeat ((first | refine oP rfl ?_ | refine rP rfl (fun _ z => z) ?_ | (refine kO 1 rfl ?_; first | refine rAdd rfl rfl rfl (by omega) ?_ | refine rSub rfl rfl rfl (by omega) ?_ | refine rMul rfl rfl rfl (by omega) ?_ | refine rQuo rfl rfl rfl (by omega) ?_ | refine rRem rfl rfl rfl (by omega) ?_ | refine rQuo' rfl rfl rfl (by omega) ?_ | refine rRem' rfl rfl rfl (by omega) ?_ | refine rG (fun _ z => z) ?_) | (refine kO 2 rfl ?_; first | refine rNeg rfl rfl (by omega) ?_ | refine rG (fun _ z => z) ?_) | (refine kO 3 rfl ?_; first | refine rLdr rfl rfl rfl rfl rfl ?_ | refine rLdb rfl rfl rfl rfl rfl rfl rfl ?_ | refine rLdi rfl rfl rfl rfl rfl rfl (by first | omega | decide | exact Nat.le_of_ble_eq_true rfl | (dsimp only [SC.len]; omega) | (simp; done) | (simp; omega) | omega) ?_ | refine rG (fun _ z => z) ?_ | refine rG (fun _ z => ⟨_, rfl, z⟩) ?_ | refine rG (fun _ z => ⟨_, (by assumption), z⟩) ?_) | (refine kO 4 rfl ?_; first | refine rSti rfl rfl rfl rfl rfl rfl (by first | omega | decide | exact Nat.le_of_ble_eq_true rfl | (dsimp only [SC.len]; omega) | (simp; done) | (simp; omega) | omega) ?_ | refine rG (fun _ z => z) ?_) | (refine kO 5 rfl ?_; first | refine rIdN rfl rfl rfl rfl rfl rfl rfl (by first | omega | decide | exact Nat.le_of_ble_eq_true rfl | (dsimp only [SC.len]; omega) | (simp; done) | (simp; omega) | omega) ?_ | refine rIdx rfl rfl rfl rfl rfl rfl rfl (by first | omega | decide | exact Nat.le_of_ble_eq_true rfl | (dsimp only [SC.len]; omega) | (simp; done) | (simp; omega) | omega) ?_ | refine rIdoN rfl rfl rfl rfl rfl rfl rfl rfl (by first | omega | decide | exact Nat.le_of_ble_eq_true rfl | (dsimp only [SC.len]; omega) | (simp; done) | (simp; omega) | omega) ?_ | refine rIdo rfl rfl rfl rfl rfl rfl rfl rfl (by first | omega | decide | exact Nat.le_of_ble_eq_true rfl | (dsimp only [SC.len]; omega) | (simp; done) | (simp; omega) | omega) ?_ | refine rIdvN rfl rfl rfl rfl rfl rfl (by first | assumption | rfl) rfl ?_) | (refine kO 7 rfl ?_; first | refine rG (fun _ z => ⟨_, hw, z⟩) ?_) | (refine kO 6 rfl ?_; first | refine rLen rfl rfl rfl rfl rfl rfl ?_ | refine rLenv rfl rfl rfl rfl rfl rfl ?_ | refine rLeno rfl rfl rfl rfl rfl rfl rfl ?_ | refine rLenov rfl rfl rfl rfl rfl rfl rfl ?_ | refine rG (fun _ z => z) ?_) | (refine kO 8 rfl ?_; first | refine rSlH rfl rfl rfl rfl rfl rfl rfl (by omega) ?_ | refine rSlL rfl rfl rfl rfl rfl rfl rfl (by omega) ?_ | refine rG (fun _ z => z) ?_) | refine oN ?_ | refine aS ?_ | refine aR ?_ | refine aK ?_ | refine aX ?_ | refine aB ?_ | refine aT ?_ | refine aC rfl ?_ | refine bT ?_ | refine bF ?_ | refine bPt (by omega) ?_ | refine bPf (by omega) ?_ | refine aL ?_ | refine aE ?_ | refine oY rfl rfl rfl ?_ | refine oZ rfl rfl rfl ?_ | refine oO rfl rfl rfl ?_ | refine oIt rfl rfl rfl (by omega) ?_ | refine oIf rfl rfl rfl (by omega) ?_ | refine oUt rfl rfl rfl (by omega) ?_ | refine oUf rfl rfl rfl (by omega) ?_ | refine dI (by kernel_rfl) ?_ | refine rG (fun _ z => ⟨(by (first | omega | decide | rfl | exact lnS (by omega) | exact lnN (by decide) | exact lnN (by omega) | exact lnC (by omega) | exact lvS (by omega) | exact lvN (by decide) | exact lvC (by omega) | exact uvS rfl | exact uvN rfl | ((try unfold SC.len); (try unfold SC.uni); (try unfold LIM); (try simp); (try omega); done) | omega)), z⟩) ?_ | refine rG (fun _ z => ⟨(by (first | omega | decide | rfl | exact lnS (by omega) | exact lnN (by decide) | exact lnN (by omega) | exact lnC (by omega) | exact lvS (by omega) | exact lvN (by decide) | exact lvC (by omega) | exact uvS rfl | exact uvN rfl | ((try unfold SC.len); (try unfold SC.uni); (try unfold LIM); (try simp); (try omega); done) | omega)), (by (first | omega | decide | rfl | exact lnS (by omega) | exact lnN (by decide) | exact lnN (by omega) | exact lnC (by omega) | exact lvS (by omega) | exact lvN (by decide) | exact lvC (by omega) | exact uvS rfl | exact uvN rfl | ((try unfold SC.len); (try unfold SC.uni); (try unfold LIM); (try simp); (try omega); done) | omega)), z⟩) ?_); (try conv => whnf))
    rfl
theorem wideMul_sat {x y : Int} (hx : Sz 100000 x) (hy : Sz 100000 y) : Sat cx.P cx.gl 86 [wd x, wd y] (.one (wd (x * y))) := by
  have fx := sign_facts x
  have fy := sign_facts y
  obtain ⟨m1, m2, _⟩ := mulOut_spec (dg_digs x.natAbs) (dg_digs y.natAbs) _ (Nat.le_refl _)
  rw [List.take_length] at m2
  have ml := mulOut_len (digs x.natAbs) (digs y.natAbs) (digs x.natAbs).length
  have hx' : (digs x.natAbs).length ≤ 100000 := hx
  have hy' : (digs y.natAbs).length ≤ 100000 := hy
  have ev : x.sign * y.sign * ((x.natAbs : Int) * y.natAbs) = x * y := by
    have e1 : x.sign * (x.natAbs : Int) = x := Int.sign_mul_natAbs x
    have e2 : y.sign * (y.natAbs : Int) = y := Int.sign_mul_natAbs y
    calc x.sign * y.sign * ((x.natAbs : Int) * y.natAbs) = (x.sign * x.natAbs) * (y.sign * y.natAbs) := by
          rw [Int.mul_assoc, Int.mul_assoc, Int.mul_left_comm y.sign]
      _ = x * y := by rw [e1, e2]
  have := wideMul_core x.sign y.sign (digs x.natAbs) (digs y.natAbs) (dg_digs _) (dg_digs _) hx' hy' (wd (x * y)) ⟨by omega, by omega⟩ ?_
  · rw [dval_digs, dval_digs, ev] at this; exact this
  · by_cases hz : x.sign * y.sign = 0
    · have hxy : dval (digs x.natAbs) * dval (digs y.natAbs) = 0 := by
        rw [dval_digs, dval_digs]
        rcases Int.mul_eq_zero.1 hz with h | h
        · have := fx.1.1 h; subst this; simp
        · have := fy.1.1 h; subst this; simp
      rw [hxy, Int.mul_zero]
      exact wideOf0_sat (by omega) m1 (by rw [m2, hxy])
    · rw [← m2]
      exact wideOf_sat (by omega) m1 (by
        obtain ⟨_, _, _, f1⟩ := fx
        obtain ⟨_, _, _, f2⟩ := fy
        rcases f1 with h | h | h <;> rcases f2 with h' | h' | h' <;> rw [h, h'] at hz ⊢ <;> first | (exact absurd rfl hz) | decide)
end Go.Proofs.Tryz

namespace Go.Proofs.Tryz
open Go.Fw Go.IntWalk Go.Plain
set_option maxRecDepth 100000
set_option maxHeartbeats 8000000
theorem wideSign_sat (x : Int) : Sat cx.P cx.gl 107 [wd x] (.one (I x.sign)) := by
  refine Sat_of_awp (fn := f107) cx_ok (by kernel_rfl) (by kernel_rfl) rfl (by kernel_rfl) (Nat.le_of_ble_eq_true rfl) ?_
  repeat ((first | refine oP rfl ?_ | refine rP rfl (fun _ z => z) ?_ | (refine kO 3 rfl ?_; refine rLdb rfl rfl rfl rfl rfl rfl rfl ?_) | refine oN ?_ | refine aS ?_ | refine aR ?_ | refine aT ?_); (try conv => whnf))
theorem wideSub_sat {x y : Int} (hx : Sz 100000 x) (hy : Sz 100000 y) : Sat cx.P cx.gl 102 [wd x, wd y] (.one (wd (x - y))) := by
  have h1 := wideNeg_sat y
  have h2 := wideAdd_sat hx hy.neg
  rw [← Int.sub_eq_add_neg] at h2
  refine Sat_of_awp (fn := f102) cx_ok (by kernel_rfl) (by kernel_rfl) rfl (by kernel_rfl) (Nat.le_of_ble_eq_true rfl) ?_
  repeat ((first | refine oP rfl ?_ | refine rP rfl (fun _ z => z) ?_ | (refine kO 3 rfl ?_; refine rG (fun _ z => z) ?_) | (refine kO 4 rfl ?_; refine rG (fun _ z => z) ?_) | (refine kO 7 rfl ?_; first | refine rG (fun _ z => ⟨_, h1, z⟩) ?_ | refine rG (fun _ z => ⟨_, h2, z⟩) ?_) | refine oN ?_ | refine aS ?_ | refine aR ?_ | refine aT ?_ | refine dI (by kernel_rfl) ?_); (try conv => whnf))
  rfl
theorem wideCmp_sat {x y : Int} (hx : Sz 100000 x) (hy : Sz 100000 y) : Sat cx.P cx.gl 85 [wd x, wd y] (.one (I (x - y).sign)) := by
  refine Sat_of_awp (fn := f85) cx_ok (by kernel_rfl) (by kernel_rfl) rfl (by kernel_rfl) (Nat.le_of_ble_eq_true rfl) ?_
  repeat ((first | refine oP rfl ?_ | refine rP rfl (fun _ z => z) ?_ | (refine kO 3 rfl ?_; refine rG (fun _ z => z) ?_) | (refine kO 7 rfl ?_; refine rG (fun _ z => ⟨_, wideSub_sat hx hy, z⟩) ?_) | refine oN ?_ | refine aS ?_ | refine aR ?_ | refine aT ?_); (try conv => whnf))
  rfl
theorem sz_int {n : Int} (h : -9223372036854775808 ≤ n ∧ n ≤ 9223372036854775807) : Sz 3 n := sz_of (by
  have : pw 3 = 1000000000000000000000000000 := by decide
  rw [this]; omega)
theorem canon_self {l : List Int} (h : Canon l) : l = digs (dval l).toNat := canon_eq h
theorem wideFloor_core (s y : Int) (a : List Int) (ha : Dg a) (hne : a ≠ []) (hla : a.length ≤ 50000) (hy : 0 < y) (hsy : Sz 50000 y) (hs : s = 1 ∨ s = -1) :
    Sat cx.P cx.gl 110 [Wd s a, wd y] (.one (wd ((s * dval a) / y))) := by
  have hpos : 0 < a.length := List.length_pos_iff.2 hne
  have ly : (digs y.natAbs).length ≤ 50000 := hsy
  have ey : ((y.natAbs : Int)) = y := by omega
  have sy : y.sign = 1 := Int.sign_eq_one_of_pos hy
  -- the divisor again
  have wy : Sat cx.P cx.gl 103 [I 1, L (digs y.natAbs)] (.one (wd y)) := by
    have := wideOf_sat (s := 1) (l := digs y.natAbs) (by omega) (dg_digs _) (.inl rfl)
    rwa [dval_digs, Int.one_mul, ey] at this
  have wm : ∀ m : Int, 0 ≤ m → m < 1000000000 → Sat cx.P cx.gl 86 [wd y, wd m] (.one (wd (y * m))) := fun m h1 h2 => wideMul_sat (hsy.mono (by omega)) ((sz_int (by omega)).mono (by omega))
  have wo : ∀ m : Int, 0 ≤ m → m < 1000000000 → Sat cx.P cx.gl 101 [I m] (.one (wd m)) := fun m h1 h2 => WideOf_sat m (by omega)
  have lm : ∀ m : Int, 0 ≤ m → m < 1000000000 → (digs (y * m).natAbs).length ≤ 50001 := fun m h1 h2 => by
    have : Sz 1 m := sz_of (by have : pw 1 = 1000000000 := by decide
                               rw [this]; omega)
    exact hsy.mul this
  -- one digit of the dividend behind what is left
  have tr : ∀ (x r : Int), 0 ≤ x → x < 1000000000 → 0 ≤ r → r < y → trim ([x] ++ digs r.toNat) = digs (x + 1000000000 * r).toNat := fun x r h1 h2 h3 h4 => by
    have hd : Dg ([x] ++ digs r.toNat) := by
      intro z hz
      rcases List.mem_append.1 hz with hz | hz
      · simp at hz; subst hz; exact ⟨h1, h2⟩
      · exact dg_digs _ z hz
    rw [trim_eq hd]
    show digs (x + 1000000000 * dval (digs r.toNat)).toNat = _
    rw [dval_digs, show ((r.toNat : Nat) : Int) = r by omega]
  have lr : ∀ r : Int, 0 ≤ r → r < y → (digs r.toNat).length ≤ 50000 := fun r h1 h2 => Nat.le_trans (digs_len_mono (by omega)) ly
  have ll : ∀ (x r : Int), 0 ≤ x → x < 1000000000 → 0 ≤ r → r < y → (digs (x + 1000000000 * r).toNat).length ≤ 50001 := fun x r h1 h2 h3 h4 => by
    refine digs_len_le ?_
    have h5 := dval_lt (dg_digs r.toNat)
    rw [dval_digs] at h5
    have h6 := pw_mono (lr r h3 h4)
    rw [pw_succ]; omega
  have facts : ∀ t, t < a.length → fdig a y (a.length - 1 - t) = (a.getD (a.length - 1 - t) 0 + 1000000000 * (fpP a (a.length - t) % y)) / y ∧ fpP a (a.length - (t + 1)) % y = (a.getD (a.length - 1 - t) 0 + 1000000000 * (fpP a (a.length - t) % y)) % y := fun t ht => by
    have e1 : a.length - 1 - t + 1 = a.length - t := by omega
    have e2 : a.length - (t + 1) = a.length - 1 - t := by omega
    refine ⟨by unfold fdig; rw [e1], ?_⟩
    rw [e2, frem_step hy (by omega), e1]
  have g1 := ha.get (a.length - 1 - 0)
  have hR : 0 ≤ fpP a (a.length - 0) % y ∧ fpP a (a.length - 0) % y < y := ⟨Int.emod_nonneg _ (by omega), Int.emod_lt_of_pos _ hy⟩
  have hidx0 : ((a.length : Int) - 1).toNat = a.length - 1 - 0 := by omega
  have htr0 := tr _ _ g1.1 g1.2 hR.1 hR.2
  have e0 : digs (fpP a (a.length - 0) % y).toNat = [] := by rw [Nat.sub_zero, fpP_end, Int.zero_emod]; exact digs_zero
  rw [e0] at htr0
  refine Sat_of_awp (fn := f110) cx_ok (by kernel_rfl) (by kernel_rfl) rfl (by kernel_rfl) (Nat.le_of_ble_eq_true rfl) ?_
  repeat ((first | refine oP rfl ?_ | refine rP rfl (fun _ z => z) ?_ | (refine kO 1 rfl ?_; first | refine rSub rfl rfl rfl (by omega) ?_ | refine rG (fun _ z => z) ?_) | (refine kO 3 rfl ?_; refine rLdb rfl rfl rfl rfl rfl rfl rfl ?_) | (refine kO 6 rfl ?_; refine rLen rfl rfl rfl rfl rfl rfl ?_) | refine oN ?_ | refine aS ?_ | refine aR ?_ | refine aK ?_ | refine aB ?_ | refine aC rfl ?_ | refine bPf (by omega) ?_ | refine aL ?_ | refine rG (fun _ z => ⟨(by (((try unfold SC.len); (try unfold SC.uni); (try unfold LIM); (try simp); (try omega); done))), z⟩) ?_); (try conv => whnf))
  refine loop_round ?_
  repeat ((first | refine oP rfl ?_ | refine rP rfl (fun _ z => z) ?_ | (refine kO 1 rfl ?_; refine rG (fun _ z => z) ?_) | (refine kO 3 rfl ?_; first | refine rLdr rfl rfl rfl rfl rfl ?_ | refine rLdb rfl rfl rfl rfl rfl rfl rfl ?_) | (refine kO 5 rfl ?_; refine rIdx rfl rfl rfl rfl rfl rfl rfl (by omega) ?_) | (refine kO 7 rfl ?_; refine rG (fun _ z => ⟨_, trimmed_sat _ (by simp), z⟩) ?_) | refine oN ?_ | refine aS ?_ | refine aR ?_ | refine aK ?_ | refine aB ?_ | refine aC rfl ?_ | refine bPt (by omega) ?_ | refine aL ?_ | refine rG (fun _ z => ⟨(by (rfl)), (by (((try unfold SC.len); (try unfold SC.uni); (try unfold LIM); (try simp); (try omega); done))), z⟩) ?_); (try conv => whnf))
  have hL0 : 0 ≤ (a.getD (a.length - 1 - 0) 0 + 1000000000 * (fpP a (a.length - 0) % y)) := by omega
  have hLlt : (a.getD (a.length - 1 - 0) 0 + 1000000000 * (fpP a (a.length - 0) % y)) < y * 1000000000 := by omega
  have hll : (digs (a.getD (a.length - 1 - 0) 0 + 1000000000 * (fpP a (a.length - 0) % y)).toNat).length ≤ 50001 := ll _ _ g1.1 g1.2 hR.1 hR.2
  have hdig := (facts 0 (by omega)).1
  have hrem := (facts 0 (by omega)).2
  refine loop_ind (ι := Int × Int) (fun p => (0 ≤ p.1 ∧ p.1 ≤ p.2 ∧ p.2 ≤ 999999999) ∧ y * p.1 ≤ (a.getD (a.length - 1 - 0) 0 + 1000000000 * (fpP a (a.length - 0) % y)) ∧ (a.getD (a.length - 1 - 0) 0 + 1000000000 * (fpP a (a.length - 0) % y)) < y * (p.2 + 1)) (fun p => (p.2 - p.1).toNat) (fun p => ⟨[(2, pP 0), (3, pP 1), (4, pP 2), (5, pO 3), (6, vL (digs (a.getD (a.length - 1 - 0) 0 + 1000000000 * (fpP a (a.length - 0) % y)).toNat)), (7, vI ((a.length : Int) - 1)), (8, vI p.1), (9, vI p.2)], [(0, some (.box 106 [.st (J s), .st (.ints a)])), (1, some (.box 106 [.st (J y.sign), .st (.ints (digs y.natAbs))])), (2, some (.box 106 [.st (J 0), .nil])), (3, some (.row true 1 (.ints (qS a y 0))))], 4⟩) (0, 999999999) (canon_auto (by rw [hidx0, htr0]; kernel_rfl)) ⟨by simp, by simpa using hL0, by simpa using hLlt⟩ ?_
  rintro ⟨lo, hi⟩ ⟨⟨p1, p2, p3⟩, p4, p5⟩
  simp only at p1 p2 p3 p4 p5
  repeat ((first | refine oP rfl ?_ | refine rP rfl (fun _ z => z) ?_ | (refine kO 1 rfl ?_; refine rG (fun _ z => z) ?_) | refine oN ?_ | refine aS ?_ | refine aR ?_ | refine aC rfl ?_); (try conv => whnf))
  ((refine brp (fun h => ?_) (fun h => ?_)) <;> (try conv => whnf))
  · have hm : 0 ≤ (lo + hi + 1) / 2 ∧ (lo + hi + 1) / 2 ≤ 999999999 ∧ lo < (lo + hi + 1) / 2 ∧ (lo + hi + 1) / 2 ≤ hi := by omega
    have hyn : 0 ≤ y * ((lo + hi + 1) / 2) := Int.mul_nonneg (by omega) (by omega)
    have cf := cmpN_facts (y * ((lo + hi + 1) / 2)).natAbs (a.getD (a.length - 1 - 0) 0 + 1000000000 * (fpP a (a.length - 0) % y)).toNat
    repeat ((first | refine oP rfl ?_ | refine rP rfl (fun _ z => z) ?_ | (refine kO 1 rfl ?_; first | refine rAdd rfl rfl rfl (by omega) ?_ | refine rQuo rfl rfl rfl (by omega) ?_ | refine rG (fun _ z => z) ?_) | (refine kO 3 rfl ?_; refine rLdb rfl rfl rfl rfl rfl rfl rfl ?_) | (refine kO 7 rfl ?_; first | refine rG (fun _ z => ⟨_, wy, z⟩) ?_ | refine rG (fun _ z => ⟨_, wo _ (by omega) (by omega), z⟩) ?_ | refine rG (fun _ z => ⟨_, wm _ (by omega) (by omega), z⟩) ?_ | refine rG (fun _ z => ⟨_, cmpDigits_sat _ _ (Nat.le_trans (lm _ (by omega) (by omega)) (by decide)) (Nat.le_trans hll (by decide)), z⟩) ?_) | refine oN ?_ | refine aS ?_ | refine aR ?_ | refine aK ?_ | refine aB ?_ | refine aC rfl ?_); (try conv => whnf))
    ((refine brp (fun h => ?_) (fun h => ?_)) <;> (try conv => whnf))
    · repeat ((first | refine oP rfl ?_ | refine rP rfl (fun _ z => z) ?_ | refine oN ?_ | refine aR ?_); (try conv => whnf))
      generalize (lo + hi + 1) / 2 = mm at *
      exact ⟨(mm, hi), ⟨⟨by omega, by omega, by omega⟩, by show y * mm ≤ _; omega, p5⟩, by simp only; omega, canon_auto (by kernel_rfl)⟩
    · repeat ((first | refine oP rfl ?_ | refine rP rfl (fun _ z => z) ?_ | (refine kO 1 rfl ?_; refine rSub rfl rfl rfl (by omega) ?_) | refine oN ?_ | refine aR ?_); (try conv => whnf))
      generalize (lo + hi + 1) / 2 = mm at *
      refine ⟨(lo, mm - 1), ⟨⟨by omega, by omega, by omega⟩, p4, ?_⟩, by simp only; omega, canon_auto (by kernel_rfl)⟩
      simp only
      rw [Int.sub_add_cancel]; omega
  · obtain rfl : lo = hi := by omega
    have hq : (a.getD (a.length - 1 - 0) 0 + 1000000000 * (fpP a (a.length - 0) % y)) / y = lo ∧ (a.getD (a.length - 1 - 0) 0 + 1000000000 * (fpP a (a.length - 0) % y)) % y = (a.getD (a.length - 1 - 0) 0 + 1000000000 * (fpP a (a.length - 0) % y)) - y * lo := by
      refine (Int.ediv_emod_unique hy).2 ⟨by omega, by omega, ?_⟩
      rw [Int.mul_add] at p5; omega
    have hyn : 0 ≤ y * lo := Int.mul_nonneg (by omega) (by omega)
    have sd := subDigits_sat (dg_digs (a.getD (a.length - 1 - 0) 0 + 1000000000 * (fpP a (a.length - 0) % y)).toNat) (dg_digs (y * lo).natAbs) ⟨by omega, digs_len_mono (by omega)⟩ (by rw [dval_digs, dval_digs]; omega)
    rw [dval_digs, dval_digs, show (((a.getD (a.length - 1 - 0) 0 + 1000000000 * (fpP a (a.length - 0) % y)).toNat : Int) - ((y * lo).natAbs : Int)).toNat = ((a.getD (a.length - 1 - 0) 0 + 1000000000 * (fpP a (a.length - 0) % y)) - y * lo).toNat by omega] at sd
    have hql := qS_len a y 0
    have hqs : qS a y (0 + 1) = (qS a y 0).set (a.length - 1 - 0) lo := by rw [← hq.1, ← hdig]; rfl
    repeat ((first | refine oP rfl ?_ | refine rP rfl (fun _ z => z) ?_ | (refine kO 1 rfl ?_; refine rSub rfl rfl rfl (by omega) ?_) | (refine kO 3 rfl ?_; refine rLdb rfl rfl rfl rfl rfl rfl rfl ?_) | (refine kO 4 rfl ?_; refine rSti rfl rfl rfl rfl rfl rfl (by omega) ?_) | (refine kO 5 rfl ?_; refine rIdo rfl rfl rfl rfl rfl rfl rfl rfl (by (dsimp only [SC.len]; omega)) ?_) | (refine kO 7 rfl ?_; first | refine rG (fun _ z => ⟨_, wy, z⟩) ?_ | refine rG (fun _ z => ⟨_, wo _ (by omega) (by omega), z⟩) ?_ | refine rG (fun _ z => ⟨_, wm _ (by omega) (by omega), z⟩) ?_ | refine rG (fun _ z => ⟨_, sd, z⟩) ?_) | refine oN ?_ | refine aS ?_ | refine aR ?_ | refine aX ?_); (try conv => whnf))
    refine loop_ind (ι := Nat) (fun t => 1 ≤ t ∧ t ≤ a.length) (fun t => a.length - t) (fun t => ⟨[(2, pP 0), (3, pP 1), (4, pP 2), (5, pO 3), (6, vL (digs (fpP a (a.length - t) % y).toNat)), (7, vI ((a.length : Int) - 1 - (t : Int)))], [(0, some (.box 106 [.st (J s), .st (.ints a)])), (1, some (.box 106 [.st (J y.sign), .st (.ints (digs y.natAbs))])), (2, some (.box 106 [.st (J 0), .nil])), (3, some (.row true 1 (.ints (qS a y t))))], 4⟩) 1 (canon_auto (by rw [show qS a y 1 = (qS a y 0).set (a.length - 1 - 0) lo from hqs, hrem, hq.2, hidx0]; kernel_rfl)) ⟨Nat.le_refl _, by omega⟩ ?_
    clear sd hqs hql hyn hq p4 p5 h hll hLlt hL0 hdig hrem
    rintro t ⟨ht1, ht⟩
    have hidx : ((a.length : Int) - 1 - (t : Int)).toNat = a.length - 1 - t := by omega
    have g1 := ha.get (a.length - 1 - t)
    have hR : 0 ≤ fpP a (a.length - t) % y ∧ fpP a (a.length - t) % y < y := ⟨Int.emod_nonneg _ (by omega), Int.emod_lt_of_pos _ hy⟩
    have hlr := lr _ hR.1 hR.2
    have htr := tr _ _ g1.1 g1.2 hR.1 hR.2
    repeat ((first | refine oP rfl ?_ | refine rP rfl (fun _ z => z) ?_ | (refine kO 1 rfl ?_; refine rG (fun _ z => z) ?_) | refine oN ?_ | refine aS ?_ | refine aR ?_ | refine aC rfl ?_); (try conv => whnf))
    ((refine brp (fun h => ?_) (fun h => ?_)) <;> (try conv => whnf))
    · have ht3 : t < a.length := by omega
      repeat ((first | refine oP rfl ?_ | refine rP rfl (fun _ z => z) ?_ | (refine kO 3 rfl ?_; first | refine rLdr rfl rfl rfl rfl rfl ?_ | refine rLdb rfl rfl rfl rfl rfl rfl rfl ?_) | (refine kO 5 rfl ?_; refine rIdx rfl rfl rfl rfl rfl rfl rfl (by omega) ?_) | (refine kO 7 rfl ?_; refine rG (fun _ z => ⟨_, trimmed_sat _ (by simp; omega), z⟩) ?_) | refine oN ?_ | refine aS ?_ | refine aR ?_ | refine aK ?_ | refine aB ?_ | refine aL ?_ | refine rG (fun _ z => ⟨(by (rfl)), (by (((try unfold SC.len); (try unfold SC.uni); (try unfold LIM); (try simp); (try omega); done))), z⟩) ?_); (try conv => whnf))
      have hL0 : 0 ≤ (a.getD (a.length - 1 - t) 0 + 1000000000 * (fpP a (a.length - t) % y)) := by omega
      have hLlt : (a.getD (a.length - 1 - t) 0 + 1000000000 * (fpP a (a.length - t) % y)) < y * 1000000000 := by omega
      have hll : (digs (a.getD (a.length - 1 - t) 0 + 1000000000 * (fpP a (a.length - t) % y)).toNat).length ≤ 50001 := ll _ _ g1.1 g1.2 hR.1 hR.2
      have hdig := (facts t (by omega)).1
      have hrem := (facts t (by omega)).2
      refine loop_ind (ι := Int × Int) (fun p => (0 ≤ p.1 ∧ p.1 ≤ p.2 ∧ p.2 ≤ 999999999) ∧ y * p.1 ≤ (a.getD (a.length - 1 - t) 0 + 1000000000 * (fpP a (a.length - t) % y)) ∧ (a.getD (a.length - 1 - t) 0 + 1000000000 * (fpP a (a.length - t) % y)) < y * (p.2 + 1)) (fun p => (p.2 - p.1).toNat) (fun p => ⟨[(2, pP 0), (3, pP 1), (4, pP 2), (5, pO 3), (6, vL (digs (a.getD (a.length - 1 - t) 0 + 1000000000 * (fpP a (a.length - t) % y)).toNat)), (7, vI ((a.length : Int) - 1 - (t : Int))), (8, vI p.1), (9, vI p.2)], [(0, some (.box 106 [.st (J s), .st (.ints a)])), (1, some (.box 106 [.st (J y.sign), .st (.ints (digs y.natAbs))])), (2, some (.box 106 [.st (J 0), .nil])), (3, some (.row true 1 (.ints (qS a y t))))], 4⟩) (0, 999999999) (canon_auto (by rw [hidx, htr]; kernel_rfl)) ⟨by simp, by simpa using hL0, by simpa using hLlt⟩ ?_
      rintro ⟨lo, hi⟩ ⟨⟨p1, p2, p3⟩, p4, p5⟩
      simp only at p1 p2 p3 p4 p5
      repeat ((first | refine oP rfl ?_ | refine rP rfl (fun _ z => z) ?_ | (refine kO 1 rfl ?_; refine rG (fun _ z => z) ?_) | refine oN ?_ | refine aS ?_ | refine aR ?_ | refine aC rfl ?_); (try conv => whnf))
      ((refine brp (fun h => ?_) (fun h => ?_)) <;> (try conv => whnf))
      · have hm : 0 ≤ (lo + hi + 1) / 2 ∧ (lo + hi + 1) / 2 ≤ 999999999 ∧ lo < (lo + hi + 1) / 2 ∧ (lo + hi + 1) / 2 ≤ hi := by omega
        have hyn : 0 ≤ y * ((lo + hi + 1) / 2) := Int.mul_nonneg (by omega) (by omega)
        have cf := cmpN_facts (y * ((lo + hi + 1) / 2)).natAbs (a.getD (a.length - 1 - t) 0 + 1000000000 * (fpP a (a.length - t) % y)).toNat
        repeat ((first | refine oP rfl ?_ | refine rP rfl (fun _ z => z) ?_ | (refine kO 1 rfl ?_; first | refine rAdd rfl rfl rfl (by omega) ?_ | refine rQuo rfl rfl rfl (by omega) ?_ | refine rG (fun _ z => z) ?_) | (refine kO 3 rfl ?_; refine rLdb rfl rfl rfl rfl rfl rfl rfl ?_) | (refine kO 7 rfl ?_; first | refine rG (fun _ z => ⟨_, wy, z⟩) ?_ | refine rG (fun _ z => ⟨_, wo _ (by omega) (by omega), z⟩) ?_ | refine rG (fun _ z => ⟨_, wm _ (by omega) (by omega), z⟩) ?_ | refine rG (fun _ z => ⟨_, cmpDigits_sat _ _ (Nat.le_trans (lm _ (by omega) (by omega)) (by decide)) (Nat.le_trans hll (by decide)), z⟩) ?_) | refine oN ?_ | refine aS ?_ | refine aR ?_ | refine aK ?_ | refine aB ?_ | refine aC rfl ?_); (try conv => whnf))
        ((refine brp (fun h => ?_) (fun h => ?_)) <;> (try conv => whnf))
        · repeat ((first | refine oP rfl ?_ | refine rP rfl (fun _ z => z) ?_ | refine oN ?_ | refine aR ?_); (try conv => whnf))
          generalize (lo + hi + 1) / 2 = mm at *
          exact ⟨(mm, hi), ⟨⟨by omega, by omega, by omega⟩, by show y * mm ≤ _; omega, p5⟩, by simp only; omega, canon_auto (by kernel_rfl)⟩
        · repeat ((first | refine oP rfl ?_ | refine rP rfl (fun _ z => z) ?_ | (refine kO 1 rfl ?_; refine rSub rfl rfl rfl (by omega) ?_) | refine oN ?_ | refine aR ?_); (try conv => whnf))
          generalize (lo + hi + 1) / 2 = mm at *
          refine ⟨(lo, mm - 1), ⟨⟨by omega, by omega, by omega⟩, p4, ?_⟩, by simp only; omega, canon_auto (by kernel_rfl)⟩
          simp only
          rw [Int.sub_add_cancel]; omega
      · obtain rfl : lo = hi := by omega
        have hq : (a.getD (a.length - 1 - t) 0 + 1000000000 * (fpP a (a.length - t) % y)) / y = lo ∧ (a.getD (a.length - 1 - t) 0 + 1000000000 * (fpP a (a.length - t) % y)) % y = (a.getD (a.length - 1 - t) 0 + 1000000000 * (fpP a (a.length - t) % y)) - y * lo := by
          refine (Int.ediv_emod_unique hy).2 ⟨by omega, by omega, ?_⟩
          rw [Int.mul_add] at p5; omega
        have hyn : 0 ≤ y * lo := Int.mul_nonneg (by omega) (by omega)
        have sd := subDigits_sat (dg_digs (a.getD (a.length - 1 - t) 0 + 1000000000 * (fpP a (a.length - t) % y)).toNat) (dg_digs (y * lo).natAbs) ⟨by omega, digs_len_mono (by omega)⟩ (by rw [dval_digs, dval_digs]; omega)
        rw [dval_digs, dval_digs, show (((a.getD (a.length - 1 - t) 0 + 1000000000 * (fpP a (a.length - t) % y)).toNat : Int) - ((y * lo).natAbs : Int)).toNat = ((a.getD (a.length - 1 - t) 0 + 1000000000 * (fpP a (a.length - t) % y)) - y * lo).toNat by omega] at sd
        have hql := qS_len a y t
        have hqs : qS a y (t + 1) = (qS a y t).set (a.length - 1 - t) lo := by rw [← hq.1, ← hdig]; rfl
        repeat ((first | refine oP rfl ?_ | refine rP rfl (fun _ z => z) ?_ | (refine kO 1 rfl ?_; refine rSub rfl rfl rfl (by omega) ?_) | (refine kO 3 rfl ?_; refine rLdb rfl rfl rfl rfl rfl rfl rfl ?_) | (refine kO 4 rfl ?_; refine rSti rfl rfl rfl rfl rfl rfl (by omega) ?_) | (refine kO 5 rfl ?_; refine rIdo rfl rfl rfl rfl rfl rfl rfl rfl (by (dsimp only [SC.len]; omega)) ?_) | (refine kO 7 rfl ?_; first | refine rG (fun _ z => ⟨_, wy, z⟩) ?_ | refine rG (fun _ z => ⟨_, wo _ (by omega) (by omega), z⟩) ?_ | refine rG (fun _ z => ⟨_, wm _ (by omega) (by omega), z⟩) ?_ | refine rG (fun _ z => ⟨_, sd, z⟩) ?_) | refine oN ?_ | refine aS ?_ | refine aR ?_ | refine aX ?_); (try conv => whnf))
        exact ⟨t + 1, ⟨by omega, by omega⟩, by omega, canon_auto (by rw [hqs, hrem, hq.2, hidx, show (a.length : Int) - 1 - (t : Int) - 1 = (a.length : Int) - 1 - ((t + 1 : Nat) : Int) by omega]; kernel_rfl)⟩
    · obtain rfl : t = a.length := by omega
      obtain ⟨q1, q2, _⟩ := qS_spec ha hy a.length (Nat.le_refl _)
      rw [Nat.sub_self, fpP_zero] at q2
      rw [Nat.sub_self, fpP_zero]
      have hql := qS_len a y a.length
      have w1 := wideOf_sat (s := s) (l := qS a y a.length) (by omega) q1 hs
      rw [q2, pw_zero, Int.one_mul] at w1
      have hX := dval_nonneg ha
      have hnf := neg_floor (x := dval a) hy
      rcases hs with rfl | rfl
      · repeat ((first | refine oP rfl ?_ | refine rP rfl (fun _ z => z) ?_ | (refine kO 1 rfl ?_; refine rG (fun _ z => z) ?_) | (refine kO 3 rfl ?_; first | refine rLdb rfl rfl rfl rfl rfl rfl rfl ?_ | refine rG (fun _ z => z) ?_) | (refine kO 4 rfl ?_; refine rG (fun _ z => z) ?_) | (refine kO 7 rfl ?_; refine rG (fun _ z => ⟨_, w1, z⟩) ?_) | refine oN ?_ | refine aS ?_ | refine aR ?_ | refine aK ?_ | refine aX ?_ | refine aT ?_ | refine aC rfl ?_ | refine bF ?_ | refine oZ rfl rfl rfl ?_); (try conv => whnf))
        rw [Int.one_mul, Int.one_mul]; rfl
      · rw [Int.neg_mul, Int.one_mul, hnf]
        by_cases hr : dval a % y = 0
        · have e0 : digs (dval a % y).toNat = [] := by rw [hr]; exact digs_zero
          rw [e0, if_pos hr]
          repeat ((first | refine oP rfl ?_ | refine rP rfl (fun _ z => z) ?_ | (refine kO 1 rfl ?_; refine rG (fun _ z => z) ?_) | (refine kO 3 rfl ?_; first | refine rLdb rfl rfl rfl rfl rfl rfl rfl ?_ | refine rG (fun _ z => z) ?_) | (refine kO 4 rfl ?_; refine rG (fun _ z => z) ?_) | (refine kO 7 rfl ?_; refine rG (fun _ z => ⟨_, w1, z⟩) ?_) | (refine kO 6 rfl ?_; refine rLen rfl rfl rfl rfl rfl rfl ?_) | refine oN ?_ | refine aS ?_ | refine aR ?_ | refine aK ?_ | refine aX ?_ | refine aT ?_ | refine aC rfl ?_ | refine bF ?_ | refine oY rfl rfl rfl ?_); (try conv => whnf))
          rw [Int.neg_mul, Int.one_mul]; rfl
        · have e0 : 0 < (digs (dval a % y).toNat).length := by
            have hm := Int.emod_nonneg (dval a) (show y ≠ 0 by omega)
            exact List.length_pos_iff.2 (fun e => by rw [digs_nil] at e; omega)
          rw [if_neg hr]
          have o1 := WideOf_sat 1 (by omega)
          have hq0 : 0 ≤ dval a / y ∧ dval a / y ≤ dval a := ⟨Int.ediv_nonneg hX (by omega), Int.ediv_le_self y hX⟩
          have szq : Sz 100000 (-1 * (dval a / y)) := sz_of (by
            have h1 := dval_lt ha
            have h2 := pw_mono (show a.length ≤ 100000 by omega)
            omega)
          have o2 := wideSub_sat szq ((sz_int (n := 1) (by omega)).mono (by omega))
          repeat ((first | refine oP rfl ?_ | refine rP rfl (fun _ z => z) ?_ | (refine kO 1 rfl ?_; refine rG (fun _ z => z) ?_) | (refine kO 3 rfl ?_; first | refine rLdb rfl rfl rfl rfl rfl rfl rfl ?_ | refine rG (fun _ z => z) ?_) | (refine kO 4 rfl ?_; refine rG (fun _ z => z) ?_) | (refine kO 7 rfl ?_; first | refine rG (fun _ z => ⟨_, w1, z⟩) ?_ | refine rG (fun _ z => ⟨_, o1, z⟩) ?_ | refine rG (fun _ z => ⟨_, o2, z⟩) ?_) | (refine kO 6 rfl ?_; refine rLen rfl rfl rfl rfl rfl rfl ?_) | refine oN ?_ | refine aS ?_ | refine aR ?_ | refine aX ?_ | refine aT ?_ | refine aC rfl ?_ | refine bPt (by omega) ?_ | refine oY rfl rfl rfl ?_ | refine dI (by kernel_rfl) ?_); (try conv => whnf))
          rw [Int.neg_mul, Int.one_mul]; rfl
theorem wideFloor_sat {x y : Int} (hx : Sz 50000 x) (hsy : Sz 50000 y) (hy : 0 < y) : Sat cx.P cx.gl 110 [wd x, wd y] (.one (wd (x / y))) := by
  have fx := sign_facts x
  by_cases h0 : x = 0
  · subst h0
    rw [Int.zero_ediv]
    simp only [wd, Int.sign_zero, Int.natAbs_zero, digs_zero]
    refine Sat_of_awp (fn := f110) cx_ok (by kernel_rfl) (by kernel_rfl) rfl (by kernel_rfl) (Nat.le_of_ble_eq_true rfl) ?_
    repeat ((first | refine oP rfl ?_ | refine rP rfl (fun _ z => z) ?_ | (refine kO 1 rfl ?_; refine rG (fun _ z => z) ?_) | (refine kO 3 rfl ?_; refine rLdb rfl rfl rfl rfl rfl rfl rfl ?_) | (refine kO 4 rfl ?_; refine rG (fun _ z => z) ?_) | refine oN ?_ | refine aS ?_ | refine aR ?_ | refine aT ?_ | refine aC rfl ?_ | refine bT ?_); (try conv => whnf))
    rfl
  · have := wideFloor_core x.sign y (digs x.natAbs) (dg_digs _) (fun e => by rw [digs_nil] at e; omega) hx hy hsy (by omega)
    rw [dval_digs, Int.sign_mul_natAbs] at this
    exact this
end Go.Proofs.Tryz

namespace Go.Proofs.Tryz
open Go.Fw Go.IntWalk Go.Plain
set_option maxRecDepth 100000
set_option maxHeartbeats 8000000
theorem wideSize_sat (x : Int) : Sat cx.P cx.gl 114 [wd x] (.one (wd (x.natAbs : Int))) := by
  have fx := sign_facts x
  have wn := wideNeg_sat x
  rcases Int.lt_trichotomy x 0 with h | h | h
  · have e : (x.natAbs : Int) = -x := by omega
    rw [e]
    have es : x.sign = -1 := by omega
    have wn' : Sat cx.P cx.gl 108 [Wd (-1) (digs x.natAbs)] (.one (wd (-x))) := by rw [← es]; exact wn
    show Sat cx.P cx.gl 114 [Wd x.sign (digs x.natAbs)] _
    rw [es]
    refine Sat_of_awp (fn := f114) cx_ok (by kernel_rfl) (by kernel_rfl) rfl (by kernel_rfl) (Nat.le_of_ble_eq_true rfl) ?_
    repeat ((first | refine oP rfl ?_ | refine rP rfl (fun _ z => z) ?_ | (refine kO 1 rfl ?_; refine rG (fun _ z => z) ?_) | (refine kO 3 rfl ?_; first | refine rLdb rfl rfl rfl rfl rfl rfl rfl ?_ | refine rG (fun _ z => z) ?_) | (refine kO 4 rfl ?_; refine rG (fun _ z => z) ?_) | (refine kO 7 rfl ?_; refine rG (fun _ z => ⟨_, wn', z⟩) ?_) | refine oN ?_ | refine aS ?_ | refine aR ?_ | refine aT ?_ | refine aC rfl ?_ | refine bT ?_); (try conv => whnf))
    rfl
  · subst h
    simp only [wd, Int.sign_zero, Int.natAbs_zero, digs_zero, Int.natCast_zero]
    refine Sat_of_awp (fn := f114) cx_ok (by kernel_rfl) (by kernel_rfl) rfl (by kernel_rfl) (Nat.le_of_ble_eq_true rfl) ?_
    repeat ((first | refine oP rfl ?_ | refine rP rfl (fun _ z => z) ?_ | (refine kO 1 rfl ?_; refine rG (fun _ z => z) ?_) | (refine kO 3 rfl ?_; first | refine rLdb rfl rfl rfl rfl rfl rfl rfl ?_ | refine rG (fun _ z => z) ?_) | (refine kO 4 rfl ?_; refine rG (fun _ z => z) ?_) | refine oN ?_ | refine aS ?_ | refine aR ?_ | refine aK ?_ | refine aT ?_ | refine aC rfl ?_ | refine bF ?_); (try conv => whnf))
    rfl
  · have e : (x.natAbs : Int) = x := by omega
    rw [e]
    have es : x.sign = 1 := by omega
    unfold wd
    rw [es]
    refine Sat_of_awp (fn := f114) cx_ok (by kernel_rfl) (by kernel_rfl) rfl (by kernel_rfl) (Nat.le_of_ble_eq_true rfl) ?_
    repeat ((first | refine oP rfl ?_ | refine rP rfl (fun _ z => z) ?_ | (refine kO 1 rfl ?_; refine rG (fun _ z => z) ?_) | (refine kO 3 rfl ?_; first | refine rLdb rfl rfl rfl rfl rfl rfl rfl ?_ | refine rG (fun _ z => z) ?_) | (refine kO 4 rfl ?_; refine rG (fun _ z => z) ?_) | refine oN ?_ | refine aS ?_ | refine aR ?_ | refine aK ?_ | refine aT ?_ | refine aC rfl ?_ | refine bF ?_); (try conv => whnf))
    rfl
theorem Sz.le {k : Nat} {x y : Int} (h : Sz k x) (hy : y.natAbs ≤ x.natAbs) : Sz k y := sz_of (by have := sz_lt h; omega)
theorem wideGcd_sat {x y : Int} (hx : Sz 50000 x) (hy : Sz 50000 y) : Sat cx.P cx.gl 109 [wd x, wd y] (.one (wd (Int.gcd x y))) := by
  have a1 := wideSize_sat x
  have a2 := wideSize_sat y
  refine Sat_of_awp (fn := f109) cx_ok (by kernel_rfl) (by kernel_rfl) rfl (by kernel_rfl) (Nat.le_of_ble_eq_true rfl) ?_
  repeat ((first | refine oP rfl ?_ | refine rP rfl (fun _ z => z) ?_ | (refine kO 3 rfl ?_; refine rG (fun _ z => z) ?_) | (refine kO 4 rfl ?_; refine rG (fun _ z => z) ?_) | (refine kO 7 rfl ?_; first | refine rG (fun _ z => ⟨_, a1, z⟩) ?_ | refine rG (fun _ z => ⟨_, a2, z⟩) ?_) | refine oN ?_ | refine aS ?_ | refine aR ?_ | refine aB ?_ | refine aL ?_ | refine dI (by kernel_rfl) ?_); (try conv => whnf))
  refine loop_ind (ι := Nat × Nat) (fun p => Nat.gcd p.1 p.2 = Int.gcd x y ∧ Sz 50000 (p.1 : Int) ∧ Sz 50000 (p.2 : Int)) (fun p => p.2) (fun p => ⟨[(2, pP 0), (3, pP 1), (4, pP 2)], [(0, some (.box 106 [.st (J (p.1 : Int).sign), .st (.ints (digs (p.1 : Int).natAbs))])), (1, some (.box 106 [.st (J (p.2 : Int).sign), .st (.ints (digs (p.2 : Int).natAbs))])), (2, some (.box 106 [.st (J 0), .nil]))], 3⟩) (x.natAbs, y.natAbs) (canon_auto (by kernel_rfl)) ⟨rfl, hx.le (by simp), hy.le (by simp)⟩ ?_
  rintro ⟨u, v⟩ ⟨h1, h2, h3⟩
  simp only at h1 h2 h3
  have fv := sign_facts (v : Int)
  have g0 := wideSign_sat (v : Int)
  by_cases hv : v = 0
  · have e : (v : Int).sign = 0 := by omega
    rw [e] at g0
    subst hv
    repeat ((first | refine oP rfl ?_ | (refine kO 1 rfl ?_; refine rG (fun _ z => z) ?_) | (refine kO 3 rfl ?_; refine rG (fun _ z => z) ?_) | (refine kO 4 rfl ?_; refine rG (fun _ z => z) ?_) | (refine kO 7 rfl ?_; refine rG (fun _ z => ⟨_, g0, z⟩) ?_) | refine oN ?_ | refine aS ?_ | refine aR ?_ | refine aX ?_ | refine aT ?_ | refine aC rfl ?_ | refine bF ?_); (try conv => whnf))
    rw [Nat.gcd_zero_right] at h1
    rw [← h1]; rfl
  · have hvp : (0 : Int) < v := by omega
    have q0 : 0 ≤ (u : Int) / v ∧ (u : Int) / v ≤ u := ⟨Int.ediv_nonneg (by omega) (by omega), Int.ediv_le_self _ (by omega)⟩
    have q1 : (u : Int) / v * v = u - ((u % v : Nat) : Int) := by
      have := Int.ediv_mul_add_emod (u : Int) v
      rw [Int.natCast_emod]; omega
    have q2 : u % v ≤ u := Nat.mod_le _ _
    have g1 := wideFloor_sat (x := u) (y := v) h2 h3 hvp
    have g2 := wideMul_sat (x := (u : Int) / v) (y := v) ((h2.le (by omega)).mono (by omega)) (h3.mono (by omega))
    have g3 := wideSub_sat (x := u) (y := (u : Int) / v * v) (h2.mono (by omega)) ((h2.le (by rw [q1]; omega)).mono (by omega))
    rw [show (u : Int) - (u : Int) / v * v = ((u % v : Nat) : Int) by omega] at g3
    have e : (v : Int).sign = 1 := by omega
    rw [e] at g0
    repeat ((first | refine oP rfl ?_ | refine rP rfl (fun _ z => z) ?_ | (refine kO 1 rfl ?_; refine rG (fun _ z => z) ?_) | (refine kO 3 rfl ?_; refine rG (fun _ z => z) ?_) | (refine kO 4 rfl ?_; refine rG (fun _ z => z) ?_) | (refine kO 7 rfl ?_; first | refine rG (fun _ z => ⟨_, g0, z⟩) ?_ | refine rG (fun _ z => ⟨_, g1, z⟩) ?_ | refine rG (fun _ z => ⟨_, g2, z⟩) ?_ | refine rG (fun _ z => ⟨_, g3, z⟩) ?_) | refine oN ?_ | refine aS ?_ | refine aR ?_ | refine aK ?_ | refine aB ?_ | refine aC rfl ?_ | refine bT ?_ | refine dI (by kernel_rfl) ?_); (try conv => whnf))
    refine ⟨(v, u % v), ⟨?_, h3, ?_⟩, Nat.mod_lt _ (by omega), canon_auto (by kernel_rfl)⟩
    · show Nat.gcd v (u % v) = _
      rw [← h1, Nat.gcd_comm u v, Nat.gcd_rec v u, Nat.gcd_comm]
    · exact h2.le (by simp only; omega)
/-- A fraction of numbers of any size. -/
abbrev rt (n d : Int) : SV := (true, [J n.sign, .ints (digs n.natAbs), J d.sign, .ints (digs d.natAbs)])
theorem ratioMake_sat {n d : Int} (hn : Sz 50000 n) (hd : Sz 50000 d) (hp : 0 < d) : Sat cx.P cx.gl 100 [wd n, wd d] (.one (rt (lowNum n d) (lowDen n d))) := by
  have fd := sign_facts d
  have g0 := wideSign_sat d
  have es : d.sign = 1 := by omega
  rw [es] at g0
  have g1 := wideGcd_sat hn hd
  have hg := gcd_pos' (n := n) hp
  have hgd : Int.gcd n d ≤ d.natAbs := Nat.le_of_dvd (by omega) (Int.gcd_dvd_natAbs_right n d)
  have szg : Sz 50000 (Int.gcd n d : Int) := hd.le (by simpa using hgd)
  have o1 := WideOf_sat 1 (by omega)
  have g2 := wideCmp_sat (x := (Int.gcd n d : Int)) (y := 1) (szg.mono (by omega)) ((sz_int (n := 1) (by omega)).mono (by omega))
  have fg := sign_facts ((Int.gcd n d : Int) - 1)
  have f1 := wideFloor_sat hn szg hg
  have f2 := wideFloor_sat hd szg hg
  by_cases h1 : (Int.gcd n d : Int) = 1
  · have e1 : lowNum n d = n := by unfold lowNum; rw [h1]; simp
    have e2 : lowDen n d = d := by unfold lowDen; rw [h1]; simp
    rw [e1, e2]
    have eg : ((Int.gcd n d : Int) - 1).sign = 0 := by omega
    rw [eg] at g2
    refine Sat_of_awp (fn := f100) cx_ok (by kernel_rfl) (by kernel_rfl) rfl (by kernel_rfl) (Nat.le_of_ble_eq_true rfl) ?_
    repeat ((first | refine oP rfl ?_ | refine rP rfl (fun _ z => z) ?_ | (refine kO 1 rfl ?_; refine rG (fun _ z => z) ?_) | (refine kO 3 rfl ?_; refine rG (fun _ z => z) ?_) | (refine kO 4 rfl ?_; refine rG (fun _ z => z) ?_) | (refine kO 7 rfl ?_; first | refine rG (fun _ z => ⟨_, g0, z⟩) ?_ | refine rG (fun _ z => ⟨_, g1, z⟩) ?_ | refine rG (fun _ z => ⟨_, o1, z⟩) ?_ | refine rG (fun _ z => ⟨_, g2, z⟩) ?_) | refine oN ?_ | refine aS ?_ | refine aR ?_ | refine aK ?_ | refine aT ?_ | refine aC rfl ?_ | refine bT ?_ | refine bF ?_ | refine dI (by kernel_rfl) ?_); (try conv => whnf))
    rfl
  · have eg : ((Int.gcd n d : Int) - 1).sign = 1 := by omega
    rw [eg] at g2
    refine Sat_of_awp (fn := f100) cx_ok (by kernel_rfl) (by kernel_rfl) rfl (by kernel_rfl) (Nat.le_of_ble_eq_true rfl) ?_
    repeat ((first | refine oP rfl ?_ | refine rP rfl (fun _ z => z) ?_ | (refine kO 1 rfl ?_; refine rG (fun _ z => z) ?_) | (refine kO 3 rfl ?_; refine rG (fun _ z => z) ?_) | (refine kO 4 rfl ?_; refine rG (fun _ z => z) ?_) | (refine kO 7 rfl ?_; first | refine rG (fun _ z => ⟨_, g0, z⟩) ?_ | refine rG (fun _ z => ⟨_, g1, z⟩) ?_ | refine rG (fun _ z => ⟨_, o1, z⟩) ?_ | refine rG (fun _ z => ⟨_, g2, z⟩) ?_ | refine rG (fun _ z => ⟨_, f1, z⟩) ?_ | refine rG (fun _ z => ⟨_, f2, z⟩) ?_) | refine oN ?_ | refine aS ?_ | refine aR ?_ | refine aK ?_ | refine aT ?_ | refine aC rfl ?_ | refine bF ?_ | refine dI (by kernel_rfl) ?_); (try conv => whnf))
    rfl
theorem ratioInt_sat (n : Int) (h : -9223372036854775807 ≤ n ∧ n ≤ 9223372036854775807) : Sat cx.P cx.gl 83 [I n] (.one (rt n 1)) := by
  refine Sat_of_awp (fn := f83) cx_ok (by kernel_rfl) (by kernel_rfl) rfl (by kernel_rfl) (Nat.le_of_ble_eq_true rfl) ?_
  repeat ((first | refine oP rfl ?_ | refine rP rfl (fun _ z => z) ?_ | (refine kO 4 rfl ?_; refine rG (fun _ z => z) ?_) | (refine kO 7 rfl ?_; first | refine rG (fun _ z => ⟨_, WideOf_sat n h, z⟩) ?_ | refine rG (fun _ z => ⟨_, WideOf_sat 1 (by omega), z⟩) ?_) | refine oN ?_ | refine aS ?_ | refine aR ?_ | refine aT ?_); (try conv => whnf))
  rfl
theorem bRatioOf_sat {n d : Int} (hn : -9223372036854775807 ≤ n ∧ n ≤ 9223372036854775807) (hd : 0 < d ∧ d ≤ 9223372036854775807) : Sat cx.P cx.gl 99 [I n, I d] (.one (rt (lowNum n d) (lowDen n d))) := by
  have g := ratioMake_sat (n := n) (d := d) ((sz_int (by omega)).mono (by omega)) ((sz_int (by omega)).mono (by omega)) hd.1
  refine Sat_of_awp (fn := f99) cx_ok (by kernel_rfl) (by kernel_rfl) rfl (by kernel_rfl) (Nat.le_of_ble_eq_true rfl) ?_
  repeat ((first | refine oP rfl ?_ | refine rP rfl (fun _ z => z) ?_ | (refine kO 4 rfl ?_; refine rG (fun _ z => z) ?_) | (refine kO 7 rfl ?_; first | refine rG (fun _ z => ⟨_, WideOf_sat n hn, z⟩) ?_ | refine rG (fun _ z => ⟨_, WideOf_sat d (by omega), z⟩) ?_ | refine rG (fun _ z => ⟨_, g, z⟩) ?_) | refine oN ?_ | refine aS ?_ | refine aR ?_ | refine aT ?_); (try conv => whnf))
  rfl
theorem ratioFrom_sat {n d : Int} (hn : -9223372036854775807 ≤ n ∧ n ≤ 9223372036854775807) (hd : 0 < d ∧ d ≤ 9223372036854775807) : Sat cx.P cx.gl 81 [F2 n d] (.one (rt (lowNum n d) (lowDen n d))) := by
  refine Sat_of_awp (fn := f81) cx_ok (by kernel_rfl) (by kernel_rfl) rfl (by kernel_rfl) (Nat.le_of_ble_eq_true rfl) ?_
  repeat ((first | refine oP rfl ?_ | refine rP rfl (fun _ z => z) ?_ | (refine kO 3 rfl ?_; refine rLdb rfl rfl rfl rfl rfl rfl rfl ?_) | (refine kO 4 rfl ?_; refine rG (fun _ z => z) ?_) | (refine kO 7 rfl ?_; refine rG (fun _ z => ⟨_, bRatioOf_sat hn hd, z⟩) ?_) | refine oN ?_ | refine aS ?_ | refine aR ?_ | refine aT ?_); (try conv => whnf))
  rfl
theorem ratioMul_sat {n d m e : Int} (hn : Sz 20000 n) (hd : Sz 20000 d) (hm : Sz 20000 m) (he : Sz 20000 e) (hp : 0 < d * e) : Sat cx.P cx.gl 82 [rt n d, rt m e] (.one (rt (lowNum (n * m) (d * e)) (lowDen (n * m) (d * e)))) := by
  have g1 := wideMul_sat (x := n) (y := m) (hn.mono (by omega)) (hm.mono (by omega))
  have g2 := wideMul_sat (x := d) (y := e) (hd.mono (by omega)) (he.mono (by omega))
  have g3 := ratioMake_sat (n := n * m) (d := d * e) ((hn.mul hm).mono (by omega)) ((hd.mul he).mono (by omega)) hp
  refine Sat_of_awp (fn := f82) cx_ok (by kernel_rfl) (by kernel_rfl) rfl (by kernel_rfl) (Nat.le_of_ble_eq_true rfl) ?_
  repeat ((first | refine oP rfl ?_ | refine rP rfl (fun _ z => z) ?_ | (refine kO 3 rfl ?_; refine rG (fun _ z => z) ?_) | (refine kO 4 rfl ?_; refine rG (fun _ z => z) ?_) | (refine kO 7 rfl ?_; first | refine rG (fun _ z => ⟨_, g1, z⟩) ?_ | refine rG (fun _ z => ⟨_, g2, z⟩) ?_ | refine rG (fun _ z => ⟨_, g3, z⟩) ?_) | refine oN ?_ | refine aS ?_ | refine aR ?_ | refine aT ?_ | refine dI (by kernel_rfl) ?_); (try conv => whnf))
  rfl
theorem ratioCmp_sat {n d m e : Int} (hn : Sz 20000 n) (hd : Sz 20000 d) (hm : Sz 20000 m) (he : Sz 20000 e) : Sat cx.P cx.gl 53 [rt n d, rt m e] (.one (I (n * e - m * d).sign)) := by
  have g1 := wideMul_sat (x := n) (y := e) (hn.mono (by omega)) (he.mono (by omega))
  have g2 := wideMul_sat (x := m) (y := d) (hm.mono (by omega)) (hd.mono (by omega))
  have g3 := wideCmp_sat (x := n * e) (y := m * d) ((hn.mul he).mono (by omega)) ((hm.mul hd).mono (by omega))
  refine Sat_of_awp (fn := f53) cx_ok (by kernel_rfl) (by kernel_rfl) rfl (by kernel_rfl) (Nat.le_of_ble_eq_true rfl) ?_
  repeat ((first | refine oP rfl ?_ | refine rP rfl (fun _ z => z) ?_ | (refine kO 3 rfl ?_; refine rG (fun _ z => z) ?_) | (refine kO 7 rfl ?_; first | refine rG (fun _ z => ⟨_, g1, z⟩) ?_ | refine rG (fun _ z => ⟨_, g2, z⟩) ?_ | refine rG (fun _ z => ⟨_, g3, z⟩) ?_) | refine oN ?_ | refine aS ?_ | refine aR ?_ | refine aT ?_ | refine dI (by kernel_rfl) ?_); (try conv => whnf))
  rfl
end Go.Proofs.Tryz

namespace Go.Proofs.Tryz
open Go.Fw Go.IntWalk Go.Plain
set_option maxRecDepth 100000
set_option maxHeartbeats 8000000
theorem low_one {n d : Int} (hg : Int.gcd n d = 1) : lowNum n d = n ∧ lowDen n d = d := by
  unfold lowNum lowDen
  rw [hg]; simp
theorem lowNum_sz {k : Nat} {n d : Int} (h : Sz k n) : Sz k (lowNum n d) := h.le (by
  unfold lowNum
  have := Int.natAbs_ediv_le_natAbs n (Int.gcd n d : Int)
  exact this)
theorem lowDen_sz {k : Nat} {n d : Int} (h : Sz k d) : Sz k (lowDen n d) := h.le (by
  unfold lowDen
  have := Int.natAbs_ediv_le_natAbs d (Int.gcd n d : Int)
  exact this)
/-- What RatioCmp finds of u * (p/q)^2 and n. -/
theorem cmpForce_sat {u p q n : Int} (hu : -100000000 ≤ u ∧ u ≤ 100000000) (hp : 0 ≤ p ∧ p ≤ 100000) (hq : 1 ≤ q ∧ q ≤ 100000) (hg : Int.gcd p q = 1) (hn : -4000000000 ≤ n ∧ n ≤ 4000000000) : Sat cx.P cx.gl 76 [I u, F2 p q, I n] (.one (I (u * (p * p) - n * (q * q)).sign)) := by
  have hqq : 0 < q * q := Int.mul_pos (by omega) (by omega)
  have z3 : ∀ k : Int, -9223372036854775808 ≤ k ∧ k ≤ 9223372036854775807 → Sz 3 k := fun k h => sz_int h
  have szp : Sz 3 p := z3 _ (by omega)
  have szq : Sz 3 q := z3 _ (by omega)
  have szu : Sz 3 u := z3 _ (by omega)
  have szn : Sz 3 n := z3 _ (by omega)
  have sz1 : Sz 3 1 := z3 _ (by omega)
  have g0 := ratioFrom_sat (n := p) (d := q) (by omega) (by omega)
  rw [(low_one hg).1, (low_one hg).2] at g0
  have g1 := ratioMul_sat (n := p) (d := q) (m := p) (e := q) (szp.mono (by omega)) (szq.mono (by omega)) (szp.mono (by omega)) (szq.mono (by omega)) hqq
  have c1 := low_cross_eq (p * p) (q * q)
  have d1 := lowDen_pos (n := p * p) hqq
  have w1 : Sz 6 (lowNum (p * p) (q * q)) := lowNum_sz (szp.mul szp)
  have w2 : Sz 6 (lowDen (p * p) (q * q)) := lowDen_sz (szq.mul szq)
  generalize lowNum (p * p) (q * q) = C at *
  generalize lowDen (p * p) (q * q) = D at *
  have g2 := ratioInt_sat u (by omega)
  have hD : 0 < 1 * D := by omega
  have g3 := ratioMul_sat (n := u) (d := 1) (m := C) (e := D) (szu.mono (by omega)) (sz1.mono (by omega)) (w1.mono (by omega)) (w2.mono (by omega)) hD
  have c2 := low_cross_eq (u * C) (1 * D)
  have d2 := lowDen_pos (n := u * C) hD
  have w3 : Sz 9 (lowNum (u * C) (1 * D)) := lowNum_sz (szu.mul w1)
  have w4 : Sz 9 (lowDen (u * C) (1 * D)) := lowDen_sz (sz1.mul w2)
  generalize lowNum (u * C) (1 * D) = N at *
  generalize lowDen (u * C) (1 * D) = E at *
  have g4 := ratioInt_sat n (by omega)
  have g5 := ratioCmp_sat (n := N) (d := E) (m := n) (e := 1) (w3.mono (by omega)) (w4.mono (by omega)) (szn.mono (by omega)) (sz1.mono (by omega))
  have key : N * (q * q) = u * (p * p) * E := by
    rw [Int.one_mul] at c2
    refine Int.eq_of_mul_eq_mul_right (a := D) (by omega) ?_
    rw [Int.mul_right_comm, c2, Int.mul_right_comm (u * C) E, Int.mul_assoc u C, c1, ← Int.mul_assoc, Int.mul_right_comm (u * (p * p)) D E]
  rw [Int.mul_one, cmp_sign hqq d2 key] at g5
  refine Sat_of_awp (fn := f76) cx_ok (by kernel_rfl) (by kernel_rfl) rfl (by kernel_rfl) (Nat.le_of_ble_eq_true rfl) ?_
  repeat ((first | refine oP rfl ?_ | refine rP rfl (fun _ z => z) ?_ | (refine kO 1 rfl ?_; first | refine rAdd rfl rfl rfl (by omega) ?_ | refine rSub rfl rfl rfl (by omega) ?_ | refine rMul rfl rfl rfl (by omega) ?_ | refine rQuo rfl rfl rfl (by omega) ?_ | refine rRem rfl rfl rfl (by omega) ?_ | refine rQuo' rfl rfl rfl (by omega) ?_ | refine rRem' rfl rfl rfl (by omega) ?_ | refine rG (fun _ z => z) ?_) | (refine kO 2 rfl ?_; first | refine rNeg rfl rfl (by omega) ?_ | refine rG (fun _ z => z) ?_) | (refine kO 3 rfl ?_; first | refine rLdr rfl rfl rfl rfl rfl ?_ | refine rLdb rfl rfl rfl rfl rfl rfl rfl ?_ | refine rLdi rfl rfl rfl rfl rfl rfl (by first | omega | decide | exact Nat.le_of_ble_eq_true rfl | (dsimp only [SC.len]; omega) | (simp; done) | (simp; omega) | omega) ?_ | refine rG (fun _ z => z) ?_ | refine rG (fun _ z => ⟨_, rfl, z⟩) ?_ | refine rG (fun _ z => ⟨_, (by assumption), z⟩) ?_) | (refine kO 4 rfl ?_; first | refine rSti rfl rfl rfl rfl rfl rfl (by first | omega | decide | exact Nat.le_of_ble_eq_true rfl | (dsimp only [SC.len]; omega) | (simp; done) | (simp; omega) | omega) ?_ | refine rG (fun _ z => z) ?_) | (refine kO 5 rfl ?_; first | refine rIdN rfl rfl rfl rfl rfl rfl rfl (by first | omega | decide | exact Nat.le_of_ble_eq_true rfl | (dsimp only [SC.len]; omega) | (simp; done) | (simp; omega) | omega) ?_ | refine rIdx rfl rfl rfl rfl rfl rfl rfl (by first | omega | decide | exact Nat.le_of_ble_eq_true rfl | (dsimp only [SC.len]; omega) | (simp; done) | (simp; omega) | omega) ?_ | refine rIdoN rfl rfl rfl rfl rfl rfl rfl rfl (by first | omega | decide | exact Nat.le_of_ble_eq_true rfl | (dsimp only [SC.len]; omega) | (simp; done) | (simp; omega) | omega) ?_ | refine rIdo rfl rfl rfl rfl rfl rfl rfl rfl (by first | omega | decide | exact Nat.le_of_ble_eq_true rfl | (dsimp only [SC.len]; omega) | (simp; done) | (simp; omega) | omega) ?_ | refine rIdvN rfl rfl rfl rfl rfl rfl (by first | assumption | rfl) rfl ?_) | (refine kO 7 rfl ?_; first | refine rG (fun _ z => ⟨_, g2, z⟩) ?_ | refine rG (fun _ z => ⟨_, g0, z⟩) ?_ | refine rG (fun _ z => ⟨_, g1, z⟩) ?_ | refine rG (fun _ z => ⟨_, g3, z⟩) ?_ | refine rG (fun _ z => ⟨_, g4, z⟩) ?_ | refine rG (fun _ z => ⟨_, g5, z⟩) ?_) | (refine kO 6 rfl ?_; first | refine rLen rfl rfl rfl rfl rfl rfl ?_ | refine rLenv rfl rfl rfl rfl rfl rfl ?_ | refine rLeno rfl rfl rfl rfl rfl rfl rfl ?_ | refine rLenov rfl rfl rfl rfl rfl rfl rfl ?_ | refine rG (fun _ z => z) ?_) | (refine kO 8 rfl ?_; first | refine rSlH rfl rfl rfl rfl rfl rfl rfl (by omega) ?_ | refine rSlL rfl rfl rfl rfl rfl rfl rfl (by omega) ?_ | refine rG (fun _ z => z) ?_) | refine oN ?_ | refine aS ?_ | refine aR ?_ | refine aK ?_ | refine aX ?_ | refine aB ?_ | refine aT ?_ | refine aC rfl ?_ | refine bT ?_ | refine bF ?_ | refine bPt (by omega) ?_ | refine bPf (by omega) ?_ | refine aL ?_ | refine aE ?_ | refine oY rfl rfl rfl ?_ | refine oZ rfl rfl rfl ?_ | refine oO rfl rfl rfl ?_ | refine oIt rfl rfl rfl (by omega) ?_ | refine oIf rfl rfl rfl (by omega) ?_ | refine oUt rfl rfl rfl (by omega) ?_ | refine oUf rfl rfl rfl (by omega) ?_ | refine dI (by kernel_rfl) ?_ | refine rG (fun _ z => ⟨(by (first | omega | decide | rfl | exact lnS (by omega) | exact lnN (by decide) | exact lnN (by omega) | exact lnC (by omega) | exact lvS (by omega) | exact lvN (by decide) | exact lvC (by omega) | exact uvS rfl | exact uvN rfl | ((try unfold SC.len); (try unfold SC.uni); (try unfold LIM); (try simp); (try omega); done) | omega)), z⟩) ?_ | refine rG (fun _ z => ⟨(by (first | omega | decide | rfl | exact lnS (by omega) | exact lnN (by decide) | exact lnN (by omega) | exact lnC (by omega) | exact lvS (by omega) | exact lvN (by decide) | exact lvC (by omega) | exact uvS rfl | exact uvN rfl | ((try unfold SC.len); (try unfold SC.uni); (try unfold LIM); (try simp); (try omega); done) | omega)), (by (first | omega | decide | rfl | exact lnS (by omega) | exact lnN (by decide) | exact lnN (by omega) | exact lnC (by omega) | exact lvS (by omega) | exact lvN (by decide) | exact lvC (by omega) | exact uvS rfl | exact uvN rfl | ((try unfold SC.len); (try unfold SC.uni); (try unfold LIM); (try simp); (try omega); done) | omega)), z⟩) ?_); (try conv => whnf))
  rfl
end Go.Proofs.Tryz
