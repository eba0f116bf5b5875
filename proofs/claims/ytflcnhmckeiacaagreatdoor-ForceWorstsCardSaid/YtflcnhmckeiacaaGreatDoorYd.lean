/- Parts of the proof, joined. -/
import Derived.Test.YtflcnhmckeiacaaGreatDoorYb
import Derived.Test.YtflcnhmckeiacaaGreatDoorWf
namespace Go.Proofs.Tryz
open Go.Fw Go.IntWalk Go.Plain
set_option maxRecDepth 100000
set_option maxHeartbeats 8000000
/-- A case's cells. -/
def caC (c : Ca) : List SC := [J c.1, J c.2.1, J c.2.2.1, J c.2.2.2]
theorem caC_snoc (l : List Ca) (k t s f : Int) : (l ++ [(k, t, s, f)]).map caC = l.map caC ++ [[J k, J t, J s, J f]] := by simp [caC]
theorem flat_len {α : Type} {f : Nat → List α} {m : Nat} (h : ∀ i, (f i).length = m) (n : Nat) : ((List.range n).flatMap f).length = n * m := by
  induction n with
  | zero => simp
  | succ n ih => rw [List.range_succ, List.flatMap_append, List.length_append, ih]; simp [h, Nat.succ_mul]
theorem casK_len (K T : Nat) (lo : Int) (S F : Nat) : (casK K T lo S F).length = K * (T * (S * F)) :=
  flat_len (fun k => flat_len (fun t => flat_len (fun s => by simp [casF]) S) T) K
section
variable (a : List Int) (ts : List (List Int)) (lo hi : Int) (fl : List Fa) (l0 l1 l2 l3 : Int)
theorem refCases_sat (hT : ts.length ≤ 1000) (hF : fl.length ≤ 1000) (hlo : -3 ≤ lo ∧ lo ≤ 3) (hhi : -3 ≤ hi ∧ hi ≤ 3) :
    Sat cx.P cx.gl 46 [Ds a ts lo hi fl l0 l1 l2 l3] (.own 4 (.view ((casL ts.length lo hi fl.length).map caC))) := by
  have hml : (ts.map fun t => [SC.ints t]).length = ts.length := List.length_map _
  have hmf : (fl.map fcs).length = fl.length := List.length_map _
  have hlen : ∀ k t s f : Nat, k < 4 → t < ts.length → s < (hi - lo + 1).toNat → f < fl.length → ((casPre k t s f ts.length lo (hi - lo + 1).toNat fl.length).map caC).length ≤ 100000000 := by
    intro k t s f h1 h2 h3 h4
    have := casPre_len (lo := lo) h1 h2 h3 h4
    rw [List.length_map]
    have hK := casK_len 4 ts.length lo (hi - lo + 1).toNat fl.length
    have b2 : (hi - lo + 1).toNat * fl.length ≤ 7 * 1000 := Nat.mul_le_mul (by omega) hF
    have b3 : ts.length * ((hi - lo + 1).toNat * fl.length) ≤ 1000 * (7 * 1000) := Nat.mul_le_mul hT b2
    omega
  refine Sat_of_awp (fn := f46) cx_ok (by kernel_rfl) (by kernel_rfl) rfl (by kernel_rfl) (Nat.le_of_ble_eq_true rfl) ?_
  repeat ((first | refine oP rfl ?_ | refine rP rfl (fun _ z => z) ?_ | refine oN ?_ | refine aS ?_ | refine aR ?_ | refine aB ?_ | refine aL ?_); (try conv => whnf))
  refine loop_ind (ι := Nat) (fun k => k ≤ 4) (fun k => 4 - k) (fun k => ⟨[(1, pP 0), (3, pO 1), (4, vI k)], [(0, bDs a ts lo hi fl l0 l1 l2 l3 29), (1, some (.row true 4 (.view ((casPre k 0 0 0 ts.length lo (hi - lo + 1).toNat fl.length).map caC))))], 2⟩) 0 (by rw [casPre_0]; exact Sub.trans (nil_sub 3 4 (.view []) (by decide) rfl rfl rfl) (canon_auto (by kernel_rfl))) (Nat.zero_le _) ?_
  intro k hk
  by_cases hk4 : k < 4
  case neg =>
    obtain rfl : k = 4 := by omega
    rw [casPre_K]
    repeat ((first | refine oP rfl ?_ | refine rP rfl (fun _ z => z) ?_ | (refine kO 1 rfl ?_; refine rG (fun _ z => z) ?_) | refine oN ?_ | refine aS ?_ | refine aR ?_ | refine aX ?_ | refine aT ?_ | refine aC rfl ?_ | refine bF ?_); (try conv => whnf))
    (rfl)
  repeat ((first | refine oP rfl ?_ | refine rP rfl (fun _ z => z) ?_ | (refine kO 1 rfl ?_; refine rG (fun _ z => z) ?_) | refine oN ?_ | refine aS ?_ | refine aR ?_ | refine aK ?_ | refine aB ?_ | refine aC rfl ?_ | refine bPt (by omega) ?_ | refine aL ?_); (try conv => whnf))
  refine loop_ind (ι := Nat) (fun t => t ≤ ts.length) (fun t => ts.length - t) (fun t => ⟨[(1, pP 0), (3, pO 1), (4, vI k), (5, vI t)], [(0, bDs a ts lo hi fl l0 l1 l2 l3 29), (1, some (.row true 4 (.view ((casPre k t 0 0 ts.length lo (hi - lo + 1).toNat fl.length).map caC))))], 2⟩) 0 (canon_auto (by kernel_rfl)) (Nat.zero_le _) ?_
  intro t ht
  by_cases htT : t < ts.length
  case neg =>
    obtain rfl : t = ts.length := by omega
    rw [casPre_T]
    repeat ((first | refine oP rfl ?_ | refine rP rfl (fun _ z => z) ?_ | (refine kO 1 rfl ?_; first | refine rAdd rfl rfl rfl (by omega) ?_ | refine rG (fun _ z => z) ?_) | (refine kO 3 rfl ?_; refine rLdb rfl rfl rfl rfl rfl rfl rfl ?_) | (refine kO 6 rfl ?_; refine rLenv rfl rfl rfl rfl rfl rfl ?_) | refine oN ?_ | refine aS ?_ | refine aR ?_ | refine aX ?_ | refine aC rfl ?_ | refine bPf (by omega) ?_); (try conv => whnf))
    exact ⟨k + 1, by omega, by omega, canon_auto (by kernel_rfl)⟩
  repeat ((first | refine oP rfl ?_ | refine rP rfl (fun _ z => z) ?_ | (refine kO 1 rfl ?_; refine rG (fun _ z => z) ?_) | (refine kO 3 rfl ?_; refine rLdb rfl rfl rfl rfl rfl rfl rfl ?_) | (refine kO 6 rfl ?_; refine rLenv rfl rfl rfl rfl rfl rfl ?_) | refine oN ?_ | refine aS ?_ | refine aR ?_ | refine aK ?_ | refine aB ?_ | refine aC rfl ?_ | refine bPt (by omega) ?_ | refine aL ?_); (try conv => whnf))
  refine loop_ind (ι := Nat) (fun s => s ≤ (hi - lo + 1).toNat) (fun s => (hi - lo + 1).toNat - s) (fun s => ⟨[(1, pP 0), (3, pO 1), (4, vI k), (5, vI t), (6, vI (lo + s))], [(0, bDs a ts lo hi fl l0 l1 l2 l3 29), (1, some (.row true 4 (.view ((casPre k t s 0 ts.length lo (hi - lo + 1).toNat fl.length).map caC))))], 2⟩) 0 (by rw [show lo + ((0 : Nat) : Int) = lo by omega]; exact canon_auto (by kernel_rfl)) (Nat.zero_le _) ?_
  intro s hs
  by_cases hsS : s < (hi - lo + 1).toNat
  case neg =>
    obtain rfl : s = (hi - lo + 1).toNat := by omega
    rw [casPre_S]
    repeat ((first | refine oP rfl ?_ | refine rP rfl (fun _ z => z) ?_ | (refine kO 1 rfl ?_; first | refine rAdd rfl rfl rfl (by omega) ?_ | refine rG (fun _ z => z) ?_) | (refine kO 3 rfl ?_; refine rLdb rfl rfl rfl rfl rfl rfl rfl ?_) | refine oN ?_ | refine aS ?_ | refine aR ?_ | refine aX ?_ | refine aC rfl ?_ | refine bPf (by omega) ?_); (try conv => whnf))
    exact ⟨t + 1, by omega, by omega, canon_auto (by kernel_rfl)⟩
  repeat ((first | refine oP rfl ?_ | refine rP rfl (fun _ z => z) ?_ | (refine kO 1 rfl ?_; refine rG (fun _ z => z) ?_) | (refine kO 3 rfl ?_; refine rLdb rfl rfl rfl rfl rfl rfl rfl ?_) | refine oN ?_ | refine aS ?_ | refine aR ?_ | refine aK ?_ | refine aB ?_ | refine aC rfl ?_ | refine bPt (by omega) ?_ | refine aL ?_); (try conv => whnf))
  refine loop_ind (ι := Nat) (fun f => f ≤ fl.length) (fun f => fl.length - f) (fun f => ⟨[(1, pP 0), (3, pO 1), (4, vI k), (5, vI t), (6, vI (lo + s)), (7, vI f)], [(0, bDs a ts lo hi fl l0 l1 l2 l3 29), (1, some (.row true 4 (.view ((casPre k t s f ts.length lo (hi - lo + 1).toNat fl.length).map caC))))], 2⟩) 0 (canon_auto (by kernel_rfl)) (Nat.zero_le _) ?_
  intro f hf
  by_cases hfF : f < fl.length
  case neg =>
    obtain rfl : f = fl.length := by omega
    rw [casPre_F]
    repeat ((first | refine oP rfl ?_ | refine rP rfl (fun _ z => z) ?_ | (refine kO 1 rfl ?_; first | refine rAdd rfl rfl rfl (by omega) ?_ | refine rG (fun _ z => z) ?_) | (refine kO 3 rfl ?_; refine rLdb rfl rfl rfl rfl rfl rfl rfl ?_) | (refine kO 6 rfl ?_; refine rLenv rfl rfl rfl rfl rfl rfl ?_) | refine oN ?_ | refine aS ?_ | refine aR ?_ | refine aX ?_ | refine aC rfl ?_ | refine bPf (by omega) ?_); (try conv => whnf))
    exact ⟨s + 1, by omega, by omega, canon_auto (by rw [show lo + ((s + 1 : Nat) : Int) = lo + (s : Int) + 1 by omega]; kernel_rfl)⟩
  have hle := hlen k t s f hk4 htT hsS hfF
  have hnx : (casPre k t s (f + 1) ts.length lo (hi - lo + 1).toNat fl.length).map caC = (casPre k t s f ts.length lo (hi - lo + 1).toNat fl.length).map caC ++ [[J (k : Int), J (t : Int), J (lo + (s : Int)), J (f : Int)]] := by
    rw [casPre_next, caC_snoc]
  generalize (casPre k t s f ts.length lo (hi - lo + 1).toNat fl.length).map caC = A at *
  repeat ((first | refine oP rfl ?_ | refine rP rfl (fun _ z => z) ?_ | (refine kO 1 rfl ?_; first | refine rAdd rfl rfl rfl (by omega) ?_ | refine rG (fun _ z => z) ?_) | (refine kO 3 rfl ?_; refine rLdb rfl rfl rfl rfl rfl rfl rfl ?_) | (refine kO 6 rfl ?_; refine rLenv rfl rfl rfl rfl rfl rfl ?_) | refine oN ?_ | refine aS ?_ | refine aR ?_ | refine aK ?_ | refine aB ?_ | refine aC rfl ?_ | refine bPt (by omega) ?_ | refine rG (fun _ z => ⟨(by (exact uvS rfl)), (by (exact lvS (by omega))), z⟩) ?_); (try conv => whnf))
  exact ⟨f + 1, hfF, by omega, canon_auto (by rw [hnx]; kernel_rfl)⟩
end
end Go.Proofs.Tryz

namespace Go.Proofs.Tryz
open Go.Fw Go.IntWalk Go.Plain
set_option maxRecDepth 100000
set_option maxHeartbeats 16000000
theorem ratioDiv_sat {n d m e : Int} (hn : Sz 20000 n) (hd : Sz 20000 d) (hm : Sz 20000 m) (he : Sz 20000 e) (hp : 0 < d * m) : Sat cx.P cx.gl 84 [rt n d, rt m e] (.one (rt (lowNum (n * e) (d * m)) (lowDen (n * e) (d * m)))) := by
  have g1 := wideMul_sat (x := n) (y := e) (hn.mono (by omega)) (he.mono (by omega))
  have g2 := wideMul_sat (x := d) (y := m) (hd.mono (by omega)) (hm.mono (by omega))
  have g3 := ratioMake_sat (n := n * e) (d := d * m) ((hn.mul he).mono (by omega)) ((hd.mul hm).mono (by omega)) hp
  refine Sat_of_awp (fn := f84) cx_ok (by kernel_rfl) (by kernel_rfl) rfl (by kernel_rfl) (Nat.le_of_ble_eq_true rfl) ?_
  repeat ((first | refine oP rfl ?_ | refine rP rfl (fun _ z => z) ?_ | (refine kO 1 rfl ?_; first | refine rAdd rfl rfl rfl (by omega) ?_ | refine rSub rfl rfl rfl (by omega) ?_ | refine rMul rfl rfl rfl (by omega) ?_ | refine rQuo rfl rfl rfl (by omega) ?_ | refine rRem rfl rfl rfl (by omega) ?_ | refine rQuo' rfl rfl rfl (by omega) ?_ | refine rRem' rfl rfl rfl (by omega) ?_ | refine rG (fun _ z => z) ?_) | (refine kO 2 rfl ?_; first | refine rNeg rfl rfl (by omega) ?_ | refine rG (fun _ z => z) ?_) | (refine kO 3 rfl ?_; first | refine rLdr rfl rfl rfl rfl rfl ?_ | refine rLdb rfl rfl rfl rfl rfl rfl rfl ?_ | refine rLdi rfl rfl rfl rfl rfl rfl (by first | omega | decide | exact Nat.le_of_ble_eq_true rfl | (dsimp only [SC.len]; omega) | (simp; done) | (simp; omega) | omega) ?_ | refine rG (fun _ z => z) ?_ | refine rG (fun _ z => ⟨_, rfl, z⟩) ?_ | refine rG (fun _ z => ⟨_, (by assumption), z⟩) ?_) | (refine kO 4 rfl ?_; first | refine rSti rfl rfl rfl rfl rfl rfl (by first | omega | decide | exact Nat.le_of_ble_eq_true rfl | (dsimp only [SC.len]; omega) | (simp; done) | (simp; omega) | omega) ?_ | refine rG (fun _ z => z) ?_) | (refine kO 5 rfl ?_; first | refine rIdN rfl rfl rfl rfl rfl rfl rfl (by first | omega | decide | exact Nat.le_of_ble_eq_true rfl | (dsimp only [SC.len]; omega) | (simp; done) | (simp; omega) | omega) ?_ | refine rIdx rfl rfl rfl rfl rfl rfl rfl (by first | omega | decide | exact Nat.le_of_ble_eq_true rfl | (dsimp only [SC.len]; omega) | (simp; done) | (simp; omega) | omega) ?_ | refine rIdoN rfl rfl rfl rfl rfl rfl rfl rfl (by first | omega | decide | exact Nat.le_of_ble_eq_true rfl | (dsimp only [SC.len]; omega) | (simp; done) | (simp; omega) | omega) ?_ | refine rIdo rfl rfl rfl rfl rfl rfl rfl rfl (by first | omega | decide | exact Nat.le_of_ble_eq_true rfl | (dsimp only [SC.len]; omega) | (simp; done) | (simp; omega) | omega) ?_ | refine rIdvN rfl rfl rfl rfl rfl rfl (by first | assumption | rfl) rfl ?_) | (refine kO 7 rfl ?_; first | refine rG (fun _ z => ⟨_, g1, z⟩) ?_ | refine rG (fun _ z => ⟨_, g2, z⟩) ?_ | refine rG (fun _ z => ⟨_, g3, z⟩) ?_) | (refine kO 6 rfl ?_; first | refine rLen rfl rfl rfl rfl rfl rfl ?_ | refine rLenv rfl rfl rfl rfl rfl rfl ?_ | refine rLeno rfl rfl rfl rfl rfl rfl rfl ?_ | refine rLenov rfl rfl rfl rfl rfl rfl rfl ?_ | refine rG (fun _ z => z) ?_) | (refine kO 8 rfl ?_; first | refine rSlH rfl rfl rfl rfl rfl rfl rfl (by omega) ?_ | refine rSlL rfl rfl rfl rfl rfl rfl rfl (by omega) ?_ | refine rG (fun _ z => z) ?_) | refine oN ?_ | refine aS ?_ | refine aR ?_ | refine aK ?_ | refine aX ?_ | refine aB ?_ | refine aT ?_ | refine aC rfl ?_ | refine bT ?_ | refine bF ?_ | refine bPt (by omega) ?_ | refine bPf (by omega) ?_ | refine aL ?_ | refine aE ?_ | refine oY rfl rfl rfl ?_ | refine oZ rfl rfl rfl ?_ | refine oO rfl rfl rfl ?_ | refine oIt rfl rfl rfl (by omega) ?_ | refine oIf rfl rfl rfl (by omega) ?_ | refine oUt rfl rfl rfl (by omega) ?_ | refine oUf rfl rfl rfl (by omega) ?_ | refine dI (by kernel_rfl) ?_ | refine rG (fun _ z => ⟨(by (first | omega | decide | rfl | exact lnS (by omega) | exact lnN (by decide) | exact lnN (by omega) | exact lnC (by omega) | exact lvS (by omega) | exact lvN (by decide) | exact lvC (by omega) | exact uvS rfl | exact uvN rfl | ((try unfold SC.len); (try unfold SC.uni); (try unfold LIM); (try simp); (try omega); done) | omega)), z⟩) ?_ | refine rG (fun _ z => ⟨(by (first | omega | decide | rfl | exact lnS (by omega) | exact lnN (by decide) | exact lnN (by omega) | exact lnC (by omega) | exact lvS (by omega) | exact lvN (by decide) | exact lvC (by omega) | exact uvS rfl | exact uvN rfl | ((try unfold SC.len); (try unfold SC.uni); (try unfold LIM); (try simp); (try omega); done) | omega)), (by (first | omega | decide | rfl | exact lnS (by omega) | exact lnN (by decide) | exact lnN (by omega) | exact lnC (by omega) | exact lvS (by omega) | exact lvN (by decide) | exact lvC (by omega) | exact uvS rfl | exact uvN rfl | ((try unfold SC.len); (try unfold SC.uni); (try unfold LIM); (try simp); (try omega); done) | omega)), z⟩) ?_); (try conv => whnf))
  (first | done | rfl)
/-- The load of a case as the reference reduces it. -/
def rdN (u p q : Int) : Int := lowNum (u * lowNum (p * p) (q * q)) (1 * lowDen (p * p) (q * q))
def rdE (u p q : Int) : Int := lowDen (u * lowNum (p * p) (q * q)) (1 * lowDen (p * p) (q * q))
def rdQ (x : Int × Int × Int × Int) : Int × Int := (lowNum (rdN x.1 x.2.1 x.2.2.1 * 1) (rdE x.1 x.2.1 x.2.2.1 * x.2.2.2), lowDen (rdN x.1 x.2.1 x.2.2.1 * 1) (rdE x.1 x.2.1 x.2.2.1 * x.2.2.2))
theorem sz3 {k : Int} (h : -9223372036854775808 ≤ k ∧ k ≤ 9223372036854775807) : Sz 3 k := sz_int h
theorem rdN_facts {u p q : Int} (hu : 0 ≤ u ∧ u ≤ 9000000) (hp : 0 ≤ p ∧ p ≤ 100000) (hq : 1 ≤ q ∧ q ≤ 100000) :
    0 < rdE u p q ∧ rdN u p q * (q * q) = u * (p * p) * rdE u p q ∧ Sz 9 (rdN u p q) ∧ Sz 9 (rdE u p q) ∧ Sz 6 (lowNum (p * p) (q * q)) ∧ Sz 6 (lowDen (p * p) (q * q)) ∧ 0 < 1 * lowDen (p * p) (q * q) := by
  have hqq : 0 < q * q := Int.mul_pos (by omega) (by omega)
  have szp : Sz 3 p := sz3 (by omega)
  have szq : Sz 3 q := sz3 (by omega)
  have szu : Sz 3 u := sz3 (by omega)
  have sz1 : Sz 3 1 := sz3 (by omega)
  unfold rdN rdE
  have c1 := low_cross_eq (p * p) (q * q)
  have d1 := lowDen_pos (n := p * p) hqq
  have w1 : Sz 6 (lowNum (p * p) (q * q)) := lowNum_sz (szp.mul szp)
  have w2 : Sz 6 (lowDen (p * p) (q * q)) := lowDen_sz (szq.mul szq)
  generalize lowNum (p * p) (q * q) = C at *
  generalize lowDen (p * p) (q * q) = D at *
  have hD : 0 < 1 * D := by omega
  have c2 := low_cross_eq (u * C) (1 * D)
  have d2 := lowDen_pos (n := u * C) hD
  have w3 : Sz 9 (lowNum (u * C) (1 * D)) := lowNum_sz (szu.mul w1)
  have w4 : Sz 9 (lowDen (u * C) (1 * D)) := lowDen_sz (sz1.mul w2)
  generalize lowNum (u * C) (1 * D) = N at *
  generalize lowDen (u * C) (1 * D) = E at *
  refine ⟨d2, ?_, w3, w4, w1, w2, hD⟩
  rw [Int.one_mul] at c2
  refine Int.eq_of_mul_eq_mul_right (a := D) (by omega) ?_
  rw [Int.mul_right_comm, c2, Int.mul_right_comm (u * C) E, Int.mul_assoc u C, c1, ← Int.mul_assoc, Int.mul_right_comm (u * (p * p)) D E]
theorem rdQ_facts {x : Int × Int × Int × Int} (h : LB x) (hq : 0 < x.2.2.1) : 0 < (rdQ x).2 ∧ (rdQ x).1 * (qL x).2 = (qL x).1 * (rdQ x).2 ∧ Sz 20 (rdQ x).1 ∧ Sz 20 (rdQ x).2 ∧ 0 < (qL x).2 := by
  obtain ⟨u, p, q, l⟩ := x
  obtain ⟨h1, h2, h3, h4⟩ := h
  simp only at h1 h2 h3 h4 hq
  obtain ⟨e1, e2, e3, e4, _, _, _⟩ := rdN_facts h1 h2 (q := q) (by omega)
  unfold rdQ qL
  simp only
  generalize rdN u p q = N at *
  generalize rdE u p q = E at *
  have hp : 0 < E * l := Int.mul_pos e1 (by omega)
  have c3 := low_cross_eq (N * 1) (E * l)
  have d3 := lowDen_pos (n := N * 1) hp
  have w1 : Sz 12 (lowNum (N * 1) (E * l)) := lowNum_sz (e3.mul (sz3 (k := 1) (by omega)))
  have w2 : Sz 12 (lowDen (N * 1) (E * l)) := lowDen_sz (e4.mul (sz3 (k := l) (by omega)))
  generalize lowNum (N * 1) (E * l) = N2 at *
  generalize lowDen (N * 1) (E * l) = E2 at *
  refine ⟨d3, ?_, w1.mono (by omega), w2.mono (by omega), Int.mul_pos (Int.mul_pos (by omega) hq) hq⟩
  rw [Int.mul_one] at c3
  refine Int.eq_of_mul_eq_mul_right (a := E) (by omega) ?_
  have s1 : N2 * (l * q * q) * E = N2 * (E * l) * (q * q) := by ac_rfl
  have s2 : N * E2 * (q * q) = N * (q * q) * E2 := by ac_rfl
  have s3 : u * p * p * E2 * E = u * (p * p) * E * E2 := by ac_rfl
  rw [s1, c3, s2, e2, s3]
theorem cross_lt {n d a b n' d' a' b' : Int} (hd : 0 < d) (hb : 0 < b) (hd' : 0 < d') (hb' : 0 < b') (h : n * b = a * d) (h' : n' * b' = a' * d') : n * d' < n' * d ↔ a * b' < a' * b := by
  have hB : 0 < b * b' := Int.mul_pos hb hb'
  have hD : 0 < d * d' := Int.mul_pos hd hd'
  have e1 : n * d' * (b * b') = a * b' * (d * d') := by
    have s1 : n * d' * (b * b') = n * b * (d' * b') := by ac_rfl
    have s2 : a * b' * (d * d') = a * d * (d' * b') := by ac_rfl
    rw [s1, s2, h]
  have e2 : n' * d * (b * b') = a' * b * (d * d') := by
    have s1 : n' * d * (b * b') = n' * b' * (d * b) := by ac_rfl
    have s2 : a' * b * (d * d') = a' * d' * (d * b) := by ac_rfl
    rw [s1, s2, h']
  refine ⟨fun k => Int.lt_of_mul_lt_mul_right (a := d * d') ?_ (by omega), fun k => Int.lt_of_mul_lt_mul_right (a := b * b') ?_ (by omega)⟩
  · rw [← e1, ← e2]; exact Int.mul_lt_mul_of_pos_right k hB
  · rw [e1, e2]; exact Int.mul_lt_mul_of_pos_right k hD
/-- What RatioCmp finds of two loads. -/
def rdS (x y : Int × Int × Int × Int) : Int := ((rdQ x).1 * (rdQ y).2 - (rdQ y).1 * (rdQ x).2).sign
theorem rdS_pos {x y : Int × Int × Int × Int} (hx : LB x) (hy : LB y) (qx : 0 < x.2.2.1) (qy : 0 < y.2.2.1) : 0 < rdS x y ↔ ltQ (qL y) (qL x) := by
  obtain ⟨a1, a2, _, _, a3⟩ := rdQ_facts hx qx
  obtain ⟨b1, b2, _, _, b3⟩ := rdQ_facts hy qy
  have := cross_lt b1 b3 a1 a3 b2 a2
  have f := sign_facts ((rdQ x).1 * (rdQ y).2 - (rdQ y).1 * (rdQ x).2)
  unfold rdS ltQ
  omega
theorem rdCmp_sat {x y : Int × Int × Int × Int} (hx : LB x) (hy : LB y) (qx : 0 < x.2.2.1) (qy : 0 < y.2.2.1) : Sat cx.P cx.gl 53 [rt (rdQ x).1 (rdQ x).2, rt (rdQ y).1 (rdQ y).2] (.one (I (rdS x y))) := by
  obtain ⟨_, _, a1, a2, _⟩ := rdQ_facts hx qx
  obtain ⟨_, _, b1, b2, _⟩ := rdQ_facts hy qy
  exact ratioCmp_sat (a1.mono (by omega)) (a2.mono (by omega)) (b1.mono (by omega)) (b2.mono (by omega))
theorem pk_low {f : Fa} (h : fErr f = 0) : Int.gcd (pkN f) (pkD f) = 1 := by
  obtain ⟨_, _, _, h4⟩ := peak_bounds h
  exact low_gcd (n := f.2.1 * f.2.2.2.2.1) (show 0 < f.2.2.1 * f.2.2.2.2.2 by omega)
section
variable (a : List Int) (ts : List (List Int)) (lo hi : Int) (fl : List Fa) (l0 l1 l2 l3 : Int)
theorem ld_cmp (h : DOK a ts lo hi fl l0 l1 l2 l3) {c d : Ca} (hc : CaOK ts.length lo hi fl.length c) (hd : CaOK ts.length lo hi fl.length d) :
    Sat cx.P cx.gl 53 [rt (rdQ (ldF a ts fl l0 l1 l2 l3 d)).1 (rdQ (ldF a ts fl l0 l1 l2 l3 d)).2, rt (rdQ (ldF a ts fl l0 l1 l2 l3 c)).1 (rdQ (ldF a ts fl l0 l1 l2 l3 c)).2] (.one (I (rdS (ldF a ts fl l0 l1 l2 l3 d) (ldF a ts fl l0 l1 l2 l3 c))))
    ∧ (ltC a ts fl l0 l1 l2 l3 c d = true ↔ 0 < rdS (ldF a ts fl l0 l1 l2 l3 d) (ldF a ts fl l0 l1 l2 l3 c)) := by
  have b1 := load_lb a ts lo hi fl l0 l1 l2 l3 h hc
  have b2 := load_lb a ts lo hi fl l0 l1 l2 l3 h hd
  have q1 := (pkD_pos (h.flt' hc)).1
  have q2 := (pkD_pos (h.flt' hd)).1
  refine ⟨rdCmp_sat b2 b1 q2 q1, ?_⟩
  rw [rdS_pos b2 b1 q2 q1]
  unfold ltC
  rw [rC_eq a ts lo hi fl l0 l1 l2 l3 h hc, rC_eq a ts lo hi fl l0 l1 l2 l3 h hd]
  exact decide_eq_true_iff
end
end Go.Proofs.Tryz

namespace Go.Proofs.Tryz
open Go.Fw Go.IntWalk Go.Plain
set_option maxRecDepth 100000
set_option maxHeartbeats 16000000
theorem refHoldsAt_sat {a b c d n m u l : Int} (hf : faultErr a b c d n m = 0) (hu : 0 ≤ u ∧ u ≤ 10000000) (hl : 1 ≤ l ∧ l ≤ 100000000) : Sat cx.P cx.gl 47 [F6 a b c d n m, I u, I l] (.one (I (holdsF a b c d n m u l))) := by
  have g0 := refPeak_sat a b c d n m hf
  obtain ⟨b1, b2, b3, b4⟩ := peak_bounds hf
  have k1 := low_le b1.1 (show 0 < d * m by omega)
  have k2 := low_le b3.1 (show 0 < c * m by omega)
  have n1 := lowNum_nonneg (d := d * m) b1.1
  have n2 := lowNum_nonneg (d := c * m) b3.1
  have p1 := lowDen_pos (n := a * n) (show 0 < d * m by omega)
  have p2 := lowDen_pos (n := b * n) (show 0 < c * m by omega)
  have y1 := low_gcd (n := a * n) (show 0 < d * m by omega)
  have y2 := low_gcd (n := b * n) (show 0 < c * m by omega)
  unfold holdsF holdsV
  rw [lowN_eq, lowN_eq, lowD_eq, lowD_eq] at *
  generalize lowNum (a * n) (d * m) = p at *
  generalize lowDen (a * n) (d * m) = q at *
  generalize lowNum (b * n) (c * m) = r at *
  generalize lowDen (b * n) (c * m) = s at *
  have g1 := cmpForce_sat (u := u) (p := r) (q := s) (n := l) (by omega) (by omega) (by omega) y2 (by omega)
  have g2 := cmpForce_sat (u := u) (p := p) (q := q) (n := l) (by omega) (by omega) (by omega) y1 (by omega)
  have f1 := sign_facts (u * (r * r) - l * (s * s))
  have f2 := sign_facts (u * (p * p) - l * (q * q))
  refine Sat_of_awp (fn := f47) cx_ok (by kernel_rfl) (by kernel_rfl) rfl (by kernel_rfl) (Nat.le_of_ble_eq_true rfl) ?_
  repeat ((first | refine oP rfl ?_ | refine rP rfl (fun _ z => z) ?_ | (refine kO 1 rfl ?_; refine rG (fun _ z => z) ?_) | (refine kO 3 rfl ?_; refine rG (fun _ z => z) ?_) | (refine kO 4 rfl ?_; refine rG (fun _ z => z) ?_) | (refine kO 7 rfl ?_; first | refine rG (fun _ z => ⟨_, g0, z⟩) ?_ | refine rG (fun _ z => ⟨_, g1, z⟩) ?_) | refine oN ?_ | refine aS ?_ | refine aR ?_ | refine aC rfl ?_); (try conv => whnf))
  ((refine brp (fun h => ?_) (fun h => ?_)) <;> (try conv => whnf))
  · repeat ((first | refine oP rfl ?_ | refine rP rfl (fun _ z => z) ?_ | refine oN ?_ | refine aS ?_ | refine aR ?_ | refine aT ?_); (try conv => whnf))
    rw [if_pos (by omega)]
  · repeat ((first | refine oP rfl ?_ | refine rP rfl (fun _ z => z) ?_ | (refine kO 1 rfl ?_; refine rG (fun _ z => z) ?_) | (refine kO 3 rfl ?_; refine rG (fun _ z => z) ?_) | (refine kO 7 rfl ?_; refine rG (fun _ z => ⟨_, g2, z⟩) ?_) | refine oN ?_ | refine aS ?_ | refine aR ?_ | refine aK ?_ | refine aC rfl ?_); (try conv => whnf))
    ((refine brp (fun h => ?_) (fun h => ?_)) <;> (try conv => whnf))
    · repeat ((first | refine oP rfl ?_ | refine rP rfl (fun _ z => z) ?_ | refine oN ?_ | refine aS ?_ | refine aR ?_ | refine aT ?_); (try conv => whnf))
      rw [if_neg (by omega), if_pos (by omega)]
    · repeat ((first | refine oP rfl ?_ | refine rP rfl (fun _ z => z) ?_ | refine oN ?_ | refine aS ?_ | refine aR ?_ | refine aK ?_ | refine aT ?_); (try conv => whnf))
      rw [if_neg (by omega), if_neg (by omega)]
section
variable (a : List Int) (ts : List (List Int)) (lo hi : Int) (fl : List Fa) (l0 l1 l2 l3 : Int)
theorem refWindowC_sat (k : Int) (t : Nat) (s f : Int) (ht : t < ts.length) (ha : a.length ≤ 20) (hb : (ts.getD t []).length ≤ 20) (hs : -3 ≤ s ∧ s ≤ 3) :
    Sat cx.P cx.gl 15 [Ds a ts lo hi fl l0 l1 l2 l3, (true, [J k, J (t : Int), J s, J f])] (.one (W2 (shI a s) (shO (ts.getD t []) s))) := by
  have h1 := tap_get ht
  have g := refShifted_sat a (ts.getD t []) s (by omega) (by omega) hs
  refine Sat_of_awp (fn := f15) cx_ok (by kernel_rfl) (by kernel_rfl) rfl (by kernel_rfl) (Nat.le_of_ble_eq_true rfl) ?_
  repeat ((first | refine oP rfl ?_ | refine rP rfl (fun _ z => z) ?_ | (refine kO 3 rfl ?_; first | refine rLdr rfl rfl rfl rfl rfl ?_ | refine rLdb rfl rfl rfl rfl rfl rfl rfl ?_) | (refine kO 4 rfl ?_; refine rG (fun _ z => z) ?_) | (refine kO 5 rfl ?_; refine rIdvN rfl rfl rfl rfl rfl rfl (by assumption) rfl ?_) | (refine kO 7 rfl ?_; refine rG (fun _ z => ⟨_, g, z⟩) ?_) | refine oN ?_ | refine aS ?_ | refine aR ?_ | refine aT ?_ | refine dI (by kernel_rfl) ?_); (try conv => whnf))
  (rfl)
theorem refLoad_sat (h : DOK a ts lo hi fl l0 l1 l2 l3) (c : Ca) (hc : CaOK ts.length lo hi fl.length c) : Sat cx.P cx.gl 52 [Ds a ts lo hi fl l0 l1 l2 l3, CaX c] (.one (rt (rdQ (ldF a ts fl l0 l1 l2 l3 c)).1 (rdQ (ldF a ts fl l0 l1 l2 l3 c)).2)) := by
  have hv := h.vw hc
  have hfe := h.flt' hc
  have hl := hv.1.len
  have hle := hv.1.le
  have hlo := h.lo3
  have hhi := h.hi3
  have hlb := load_lb a ts lo hi fl l0 l1 l2 l3 h hc
  have hpq := (pkD_pos hfe).1
  have hgc := pk_low hfe
  obtain ⟨⟨k1, k2⟩, ⟨t1, t2⟩, ⟨s1, s2⟩, ⟨f1, f2⟩⟩ := hc
  obtain ⟨k, t, s, f⟩ := c
  simp only at k1 k2 t1 t2 s1 s2 f1 f2
  obtain ⟨tn, rfl⟩ : ∃ n : Nat, t = n := ⟨t.toNat, by omega⟩
  obtain ⟨fn, rfl⟩ : ∃ n : Nat, f = n := ⟨f.toNat, by omega⟩
  have g1 := refWindowC_sat a ts lo hi fl l0 l1 l2 l3 k tn s fn (by omega) (by omega) (by show (tapF ts (k, (tn : Int), s, (fn : Int))).length ≤ 20; omega) (by omega)
  have g2 := refUnit_sat _ _ k hv.2 (by omega)
  have hfg := fault_get (fl := fl) (f := fn) (by omega)
  have g3 := refPeak_sat _ _ _ _ _ _ hfe
  obtain ⟨b1, b2, b3, b4⟩ := hlb
  simp only at b1 b2 b3 b4
  have g4 := ratioFrom_sat (n := pkN (faF fl (k, (tn : Int), s, (fn : Int)))) (d := pkD (faF fl (k, (tn : Int), s, (fn : Int)))) (by omega) (by omega)
  rw [(low_one hgc).1, (low_one hgc).2] at g4
  obtain ⟨e1, e2, e3, e4, e5, e6, e7⟩ := rdN_facts b1 b2 (q := pkD (faF fl (k, (tn : Int), s, (fn : Int)))) (by omega)
  have szp : Sz 3 (pkN (faF fl (k, (tn : Int), s, (fn : Int)))) := sz3 (by omega)
  have szq : Sz 3 (pkD (faF fl (k, (tn : Int), s, (fn : Int)))) := sz3 (by omega)
  have g5 := ratioMul_sat (szp.mono (by omega)) (szq.mono (by omega)) (szp.mono (by omega)) (szq.mono (by omega)) (Int.mul_pos (show 0 < pkD (faF fl (k, (tn : Int), s, (fn : Int))) by omega) hpq)
  have g6 := ratioInt_sat (unF a ts (k, (tn : Int), s, (fn : Int))) (by omega)
  have szu : Sz 3 (unF a ts (k, (tn : Int), s, (fn : Int))) := sz3 (by omega)
  have g7 := ratioMul_sat (szu.mono (by omega)) ((sz3 (k := 1) (by omega)).mono (by omega)) (e5.mono (by omega)) (e6.mono (by omega)) e7
  have g8 := ratioInt_sat (liF l0 l1 l2 l3 (k, (tn : Int), s, (fn : Int))) (by omega)
  have szl : Sz 3 (liF l0 l1 l2 l3 (k, (tn : Int), s, (fn : Int))) := sz3 (by omega)
  have g9 := ratioDiv_sat (n := rdN (unF a ts (k, (tn : Int), s, (fn : Int))) (pkN (faF fl (k, (tn : Int), s, (fn : Int)))) (pkD (faF fl (k, (tn : Int), s, (fn : Int))))) (d := rdE (unF a ts (k, (tn : Int), s, (fn : Int))) (pkN (faF fl (k, (tn : Int), s, (fn : Int)))) (pkD (faF fl (k, (tn : Int), s, (fn : Int))))) (m := liF l0 l1 l2 l3 (k, (tn : Int), s, (fn : Int))) (e := 1) (e3.mono (by omega)) (e4.mono (by omega)) (szl.mono (by omega)) ((sz3 (k := 1) (by omega)).mono (by omega)) (Int.mul_pos e1 (by omega))
  clear e1 e2 e3 e4 e5 e6 e7
  have h4' : k = 0 ∨ k = 1 ∨ k = 2 ∨ k = 3 := by omega
  rcases h4' with rfl | rfl | rfl | rfl
  all_goals
    show Sat _ _ _ [_, (true, [J _, J _, J _, J _])] _
    refine Sat_of_awp (fn := f52) cx_ok (by kernel_rfl) (by kernel_rfl) rfl (by kernel_rfl) (Nat.le_of_ble_eq_true rfl) ?_
    repeat ((first | refine oP rfl ?_ | refine rP rfl (fun _ z => z) ?_ | (refine kO 3 rfl ?_; first | refine rLdb rfl rfl rfl rfl rfl rfl rfl ?_ | refine rG (fun _ z => z) ?_) | (refine kO 4 rfl ?_; refine rG (fun _ z => z) ?_) | (refine kO 5 rfl ?_; refine rIdvN rfl rfl rfl rfl rfl rfl (by assumption) rfl ?_) | (refine kO 7 rfl ?_; first | refine rG (fun _ z => ⟨_, g1, z⟩) ?_ | refine rG (fun _ z => ⟨_, g2, z⟩) ?_ | refine rG (fun _ z => ⟨_, g3, z⟩) ?_ | refine rG (fun _ z => ⟨_, g4, z⟩) ?_ | refine rG (fun _ z => ⟨_, g5, z⟩) ?_ | refine rG (fun _ z => ⟨_, g6, z⟩) ?_ | refine rG (fun _ z => ⟨_, g7, z⟩) ?_ | refine rG (fun _ z => ⟨_, g8, z⟩) ?_ | refine rG (fun _ z => ⟨_, g9, z⟩) ?_) | refine oN ?_ | refine aS ?_ | refine aR ?_ | refine aT ?_ | refine dI (by kernel_rfl) ?_ | refine rG (fun _ z => ⟨(by (omega)), z⟩) ?_); (try conv => whnf))
    (rfl)
end
end Go.Proofs.Tryz
