/- Parts of the proof, joined. -/
import Derived.Test.YtflcnhmckeiacaaDoorYb
import Derived.Test.YtflcnhmckeiacaaDoorWf
import Derived.Test.YtflcnhmckeiacaaDoorP
namespace Go.Proofs.Tryd
open Go.Fw Go.IntWalk Go.Plain
set_option maxRecDepth 100000
set_option maxHeartbeats 16000000
theorem ratioDiv_sat {n d m e : Int} (hn : Sz 20000 n) (hd : Sz 20000 d) (hm : Sz 20000 m) (he : Sz 20000 e) (hp : 0 < d * m) : Sat cx.P cx.gl 20 [rt n d, rt m e] (.one (rt (lowNum (n * e) (d * m)) (lowDen (n * e) (d * m)))) := by
  have g1 := wideMul_sat (x := n) (y := e) (hn.mono (by omega)) (he.mono (by omega))
  have g2 := wideMul_sat (x := d) (y := m) (hd.mono (by omega)) (hm.mono (by omega))
  have g3 := ratioMake_sat (n := n * e) (d := d * m) ((hn.mul he).mono (by omega)) ((hd.mul hm).mono (by omega)) hp
  refine Sat_of_awp (fn := f20) cx_ok (by kernel_rfl) (by kernel_rfl) rfl (by kernel_rfl) (Nat.le_of_ble_eq_true rfl) ?_
  repeat ((first | refine oP rfl ?_ | refine rP rfl (fun _ z => z) ?_ | (refine kO 1 rfl ?_; first | refine rAdd rfl rfl rfl (by omega) ?_ | refine rSub rfl rfl rfl (by omega) ?_ | refine rMul rfl rfl rfl (by omega) ?_ | refine rQuo rfl rfl rfl (by omega) ?_ | refine rRem rfl rfl rfl (by omega) ?_ | refine rQuo' rfl rfl rfl (by omega) ?_ | refine rRem' rfl rfl rfl (by omega) ?_ | refine rG (fun _ z => z) ?_) | (refine kO 2 rfl ?_; first | refine rNeg rfl rfl (by omega) ?_ | refine rG (fun _ z => z) ?_) | (refine kO 3 rfl ?_; first | refine rLdr rfl rfl rfl rfl rfl ?_ | refine rLdb rfl rfl rfl rfl rfl rfl rfl ?_ | refine rLdi rfl rfl rfl rfl rfl rfl (by first | omega | decide | exact Nat.le_of_ble_eq_true rfl | (dsimp only [SC.len]; omega) | (simp; done) | (simp; omega) | omega) ?_ | refine rG (fun _ z => z) ?_ | refine rG (fun _ z => ⟨_, rfl, z⟩) ?_ | refine rG (fun _ z => ⟨_, (by assumption), z⟩) ?_) | (refine kO 4 rfl ?_; first | refine rSti rfl rfl rfl rfl rfl rfl (by first | omega | decide | exact Nat.le_of_ble_eq_true rfl | (dsimp only [SC.len]; omega) | (simp; done) | (simp; omega) | omega) ?_ | refine rG (fun _ z => z) ?_) | (refine kO 5 rfl ?_; first | refine rIdN rfl rfl rfl rfl rfl rfl rfl (by first | omega | decide | exact Nat.le_of_ble_eq_true rfl | (dsimp only [SC.len]; omega) | (simp; done) | (simp; omega) | omega) ?_ | refine rIdx rfl rfl rfl rfl rfl rfl rfl (by first | omega | decide | exact Nat.le_of_ble_eq_true rfl | (dsimp only [SC.len]; omega) | (simp; done) | (simp; omega) | omega) ?_ | refine rIdoN rfl rfl rfl rfl rfl rfl rfl rfl (by first | omega | decide | exact Nat.le_of_ble_eq_true rfl | (dsimp only [SC.len]; omega) | (simp; done) | (simp; omega) | omega) ?_ | refine rIdo rfl rfl rfl rfl rfl rfl rfl rfl (by first | omega | decide | exact Nat.le_of_ble_eq_true rfl | (dsimp only [SC.len]; omega) | (simp; done) | (simp; omega) | omega) ?_ | refine rIdvN rfl rfl rfl rfl rfl rfl (by first | assumption | rfl) rfl ?_) | (refine kO 7 rfl ?_; first | refine rG (fun _ z => ⟨_, g1, z⟩) ?_ | refine rG (fun _ z => ⟨_, g2, z⟩) ?_ | refine rG (fun _ z => ⟨_, g3, z⟩) ?_) | (refine kO 6 rfl ?_; first | refine rLen rfl rfl rfl rfl rfl rfl ?_ | refine rLenv rfl rfl rfl rfl rfl rfl ?_ | refine rLeno rfl rfl rfl rfl rfl rfl rfl ?_ | refine rLenov rfl rfl rfl rfl rfl rfl rfl ?_ | refine rG (fun _ z => z) ?_) | (refine kO 8 rfl ?_; first | refine rSlH rfl rfl rfl rfl rfl rfl rfl (by omega) ?_ | refine rSlL rfl rfl rfl rfl rfl rfl rfl (by omega) ?_ | refine rG (fun _ z => z) ?_) | refine oN ?_ | refine aS ?_ | refine aR ?_ | refine aK ?_ | refine aX ?_ | refine aB ?_ | refine aT ?_ | refine aC rfl ?_ | refine bT ?_ | refine bF ?_ | refine bPt (by omega) ?_ | refine bPf (by omega) ?_ | refine aL ?_ | refine aE ?_ | refine oY rfl rfl rfl ?_ | refine oZ rfl rfl rfl ?_ | refine oO rfl rfl rfl ?_ | refine oIt rfl rfl rfl (by omega) ?_ | refine oIf rfl rfl rfl (by omega) ?_ | refine oUt rfl rfl rfl (by omega) ?_ | refine oUf rfl rfl rfl (by omega) ?_ | refine dI (by kernel_rfl) ?_ | refine rG (fun _ z => ⟨(by (first | omega | decide | rfl | exact lnS (by omega) | exact lnN (by decide) | exact lnN (by omega) | exact lnC (by omega) | exact lvS (by omega) | exact lvN (by decide) | exact lvC (by omega) | exact uvS rfl | exact uvN rfl | ((try unfold SC.len); (try unfold SC.uni); (try unfold LIM); (try simp); (try omega); done) | omega)), z⟩) ?_ | refine rG (fun _ z => ⟨(by (first | omega | decide | rfl | exact lnS (by omega) | exact lnN (by decide) | exact lnN (by omega) | exact lnC (by omega) | exact lvS (by omega) | exact lvN (by decide) | exact lvC (by omega) | exact uvS rfl | exact uvN rfl | ((try unfold SC.len); (try unfold SC.uni); (try unfold LIM); (try simp); (try omega); done) | omega)), (by (first | omega | decide | rfl | exact lnS (by omega) | exact lnN (by decide) | exact lnN (by omega) | exact lnC (by omega) | exact lvS (by omega) | exact lvN (by decide) | exact lvC (by omega) | exact uvS rfl | exact uvN rfl | ((try unfold SC.len); (try unfold SC.uni); (try unfold LIM); (try simp); (try omega); done) | omega)), z⟩) ?_); (try conv => whnf))
  (first | done | rfl)
/-- The load of a case as the reference reduces it. -/
def rdN (u p q : Int) : Int := lowNum (u * lowNum (p * p) (q * q)) (1 * lowDen (p * p) (q * q))
def rdE (u p q : Int) : Int := lowDen (u * lowNum (p * p) (q * q)) (1 * lowDen (p * p) (q * q))
def rdQ (x : Int × Int × Int × Int) : Int × Int := (lowNum (rdN x.1 x.2.1 x.2.2.1 * 1) (rdE x.1 x.2.1 x.2.2.1 * x.2.2.2), lowDen (rdN x.1 x.2.1 x.2.2.1 * 1) (rdE x.1 x.2.1 x.2.2.1 * x.2.2.2))
theorem sz3 {k : Int} (h : -9223372036854775808 ≤ k ∧ k ≤ 9223372036854775807) : Sz 3 k := sz_int h
theorem rdN_facts {u p q : Int} (hu : 0 ≤ u ∧ u ≤ 9000000) (hp : 0 ≤ p ∧ p ≤ 100000) (hq : 1 ≤ q ∧ q ≤ 100000) :
    0 < rdE u p q ∧ rdN u p q * (q * q) = u * (p * p) * rdE u p q ∧ Sz 9 (rdN u p q) ∧ Sz 9 (rdE u p q) ∧ Sz 6 (lowNum (p * p) (q * q)) ∧ Sz 6 (lowDen (p * p) (q * q)) ∧ 0 < 1 * lowDen (p * p) (q * q) := by
  have hqq : 0 < q * q := Int.mul_pos (by omega) (by omega)
  have szp : Sz 3 p := sz3 (by omega)
  have szq : Sz 3 q := sz3 (by omega)
  have szu : Sz 3 u := sz3 (by omega)
  have sz1 : Sz 3 1 := sz3 (by omega)
  unfold rdN rdE
  have c1 := low_cross_eq (p * p) (q * q)
  have d1 := lowDen_pos (n := p * p) hqq
  have w1 : Sz 6 (lowNum (p * p) (q * q)) := lowNum_sz (szp.mul szp)
  have w2 : Sz 6 (lowDen (p * p) (q * q)) := lowDen_sz (szq.mul szq)
  generalize lowNum (p * p) (q * q) = C at *
  generalize lowDen (p * p) (q * q) = D at *
  have hD : 0 < 1 * D := by omega
  have c2 := low_cross_eq (u * C) (1 * D)
  have d2 := lowDen_pos (n := u * C) hD
  have w3 : Sz 9 (lowNum (u * C) (1 * D)) := lowNum_sz (szu.mul w1)
  have w4 : Sz 9 (lowDen (u * C) (1 * D)) := lowDen_sz (sz1.mul w2)
  generalize lowNum (u * C) (1 * D) = N at *
  generalize lowDen (u * C) (1 * D) = E at *
  refine ⟨d2, ?_, w3, w4, w1, w2, hD⟩
  rw [Int.one_mul] at c2
  refine Int.eq_of_mul_eq_mul_right (a := D) (by omega) ?_
  rw [Int.mul_right_comm, c2, Int.mul_right_comm (u * C) E, Int.mul_assoc u C, c1, ← Int.mul_assoc, Int.mul_right_comm (u * (p * p)) D E]
theorem rdQ_facts {x : Int × Int × Int × Int} (h : LB x) (hq : 0 < x.2.2.1) : 0 < (rdQ x).2 ∧ (rdQ x).1 * (qL x).2 = (qL x).1 * (rdQ x).2 ∧ Sz 20 (rdQ x).1 ∧ Sz 20 (rdQ x).2 ∧ 0 < (qL x).2 := by
  obtain ⟨u, p, q, l⟩ := x
  obtain ⟨h1, h2, h3, h4⟩ := h
  simp only at h1 h2 h3 h4 hq
  obtain ⟨e1, e2, e3, e4, _, _, _⟩ := rdN_facts h1 h2 (q := q) (by omega)
  unfold rdQ qL
  simp only
  generalize rdN u p q = N at *
  generalize rdE u p q = E at *
  have hp : 0 < E * l := Int.mul_pos e1 (by omega)
  have c3 := low_cross_eq (N * 1) (E * l)
  have d3 := lowDen_pos (n := N * 1) hp
  have w1 : Sz 12 (lowNum (N * 1) (E * l)) := lowNum_sz (e3.mul (sz3 (k := 1) (by omega)))
  have w2 : Sz 12 (lowDen (N * 1) (E * l)) := lowDen_sz (e4.mul (sz3 (k := l) (by omega)))
  generalize lowNum (N * 1) (E * l) = N2 at *
  generalize lowDen (N * 1) (E * l) = E2 at *
  refine ⟨d3, ?_, w1.mono (by omega), w2.mono (by omega), Int.mul_pos (Int.mul_pos (by omega) hq) hq⟩
  rw [Int.mul_one] at c3
  refine Int.eq_of_mul_eq_mul_right (a := E) (by omega) ?_
  have s1 : N2 * (l * q * q) * E = N2 * (E * l) * (q * q) := by ac_rfl
  have s2 : N * E2 * (q * q) = N * (q * q) * E2 := by ac_rfl
  have s3 : u * p * p * E2 * E = u * (p * p) * E * E2 := by ac_rfl
  rw [s1, c3, s2, e2, s3]
theorem cross_lt {n d a b n' d' a' b' : Int} (hd : 0 < d) (hb : 0 < b) (hd' : 0 < d') (hb' : 0 < b') (h : n * b = a * d) (h' : n' * b' = a' * d') : n * d' < n' * d ↔ a * b' < a' * b := by
  have hB : 0 < b * b' := Int.mul_pos hb hb'
  have hD : 0 < d * d' := Int.mul_pos hd hd'
  have e1 : n * d' * (b * b') = a * b' * (d * d') := by
    have s1 : n * d' * (b * b') = n * b * (d' * b') := by ac_rfl
    have s2 : a * b' * (d * d') = a * d * (d' * b') := by ac_rfl
    rw [s1, s2, h]
  have e2 : n' * d * (b * b') = a' * b * (d * d') := by
    have s1 : n' * d * (b * b') = n' * b' * (d * b) := by ac_rfl
    have s2 : a' * b * (d * d') = a' * d' * (d * b) := by ac_rfl
    rw [s1, s2, h']
  refine ⟨fun k => Int.lt_of_mul_lt_mul_right (a := d * d') ?_ (by omega), fun k => Int.lt_of_mul_lt_mul_right (a := b * b') ?_ (by omega)⟩
  · rw [← e1, ← e2]; exact Int.mul_lt_mul_of_pos_right k hB
  · rw [e1, e2]; exact Int.mul_lt_mul_of_pos_right k hD
/-- What RatioCmp finds of two loads. -/
def rdS (x y : Int × Int × Int × Int) : Int := ((rdQ x).1 * (rdQ y).2 - (rdQ y).1 * (rdQ x).2).sign
theorem rdS_pos {x y : Int × Int × Int × Int} (hx : LB x) (hy : LB y) (qx : 0 < x.2.2.1) (qy : 0 < y.2.2.1) : 0 < rdS x y ↔ ltQ (qL y) (qL x) := by
  obtain ⟨a1, a2, _, _, a3⟩ := rdQ_facts hx qx
  obtain ⟨b1, b2, _, _, b3⟩ := rdQ_facts hy qy
  have := cross_lt b1 b3 a1 a3 b2 a2
  have f := sign_facts ((rdQ x).1 * (rdQ y).2 - (rdQ y).1 * (rdQ x).2)
  unfold rdS ltQ
  omega
theorem rdCmp_sat {x y : Int × Int × Int × Int} (hx : LB x) (hy : LB y) (qx : 0 < x.2.2.1) (qy : 0 < y.2.2.1) : Sat cx.P cx.gl 19 [rt (rdQ x).1 (rdQ x).2, rt (rdQ y).1 (rdQ y).2] (.one (I (rdS x y))) := by
  obtain ⟨_, _, a1, a2, _⟩ := rdQ_facts hx qx
  obtain ⟨_, _, b1, b2, _⟩ := rdQ_facts hy qy
  exact ratioCmp_sat (a1.mono (by omega)) (a2.mono (by omega)) (b1.mono (by omega)) (b2.mono (by omega))
theorem pk_low {f : Fa} (h : fErr f = 0) : Int.gcd (pkN f) (pkD f) = 1 := by
  obtain ⟨_, _, _, h4⟩ := peak_bounds h
  exact low_gcd (n := f.2.1 * f.2.2.2.2.1) (show 0 < f.2.2.1 * f.2.2.2.2.2 by omega)
section
variable (a : List Int) (ts : List (List Int)) (lo hi : Int) (fl : List Fa) (l0 l1 l2 l3 : Int)
theorem ld_cmp (h : DOK a ts lo hi fl l0 l1 l2 l3) {c d : Ca} (hc : CaOK ts.length lo hi fl.length c) (hd : CaOK ts.length lo hi fl.length d) :
    Sat cx.P cx.gl 19 [rt (rdQ (ldF a ts fl l0 l1 l2 l3 d)).1 (rdQ (ldF a ts fl l0 l1 l2 l3 d)).2, rt (rdQ (ldF a ts fl l0 l1 l2 l3 c)).1 (rdQ (ldF a ts fl l0 l1 l2 l3 c)).2] (.one (I (rdS (ldF a ts fl l0 l1 l2 l3 d) (ldF a ts fl l0 l1 l2 l3 c))))
    ∧ (ltC a ts fl l0 l1 l2 l3 c d = true ↔ 0 < rdS (ldF a ts fl l0 l1 l2 l3 d) (ldF a ts fl l0 l1 l2 l3 c)) := by
  have b1 := load_lb a ts lo hi fl l0 l1 l2 l3 h hc
  have b2 := load_lb a ts lo hi fl l0 l1 l2 l3 h hd
  have q1 := (pkD_pos (h.flt' hc)).1
  have q2 := (pkD_pos (h.flt' hd)).1
  refine ⟨rdCmp_sat b2 b1 q2 q1, ?_⟩
  rw [rdS_pos b2 b1 q2 q1]
  unfold ltC
  rw [rC_eq a ts lo hi fl l0 l1 l2 l3 h hc, rC_eq a ts lo hi fl l0 l1 l2 l3 h hd]
  exact decide_eq_true_iff
end
end Go.Proofs.Tryd

namespace Go.Proofs.Tryd
open Go.Fw Go.IntWalk Go.Plain
set_option maxRecDepth 100000
set_option maxHeartbeats 16000000
theorem forceAt_sat (l : List Int) (x : Int) (hl : l.length ≤ 1000) (hx : -1000 ≤ x ∧ x ≤ 1000) : Sat cx.P cx.gl 44 [L l, I x] (.one (I (atL l x))) := by
  unfold atL
  by_cases h : 0 ≤ x ∧ x ≤ (l.length : Int) - 1
  · obtain ⟨n, rfl⟩ : ∃ n : Nat, x = n := ⟨x.toNat, by omega⟩
    rw [if_pos h, Int.toNat_natCast]
    have hn : n < l.length := by omega
    refine Sat_of_awp (fn := f44) cx_ok (by kernel_rfl) (by kernel_rfl) rfl (by kernel_rfl) (Nat.le_of_ble_eq_true rfl) ?_
    repeat ((first | refine oP rfl ?_ | refine rP rfl (fun _ z => z) ?_ | (refine kO 1 rfl ?_; refine rSub rfl rfl rfl (by omega) ?_) | (refine kO 3 rfl ?_; refine rLdr rfl rfl rfl rfl rfl ?_) | (refine kO 5 rfl ?_; refine rIdN rfl rfl rfl rfl rfl rfl rfl (by omega) ?_) | (refine kO 7 rfl ?_; refine rG (fun _ z => ⟨_, within_p _ _ _, z⟩) ?_) | (refine kO 6 rfl ?_; refine rLen rfl rfl rfl rfl rfl rfl ?_) | refine oN ?_ | refine aS ?_ | refine aR ?_ | refine aT ?_ | refine aC rfl ?_ | refine bPt (by omega) ?_); (try conv => whnf))
    (done)
  · rw [if_neg h]
    refine Sat_of_awp (fn := f44) cx_ok (by kernel_rfl) (by kernel_rfl) rfl (by kernel_rfl) (Nat.le_of_ble_eq_true rfl) ?_
    repeat ((first | refine oP rfl ?_ | refine rP rfl (fun _ z => z) ?_ | (refine kO 1 rfl ?_; refine rSub rfl rfl rfl (by omega) ?_) | (refine kO 7 rfl ?_; refine rG (fun _ z => ⟨_, within_p _ _ _, z⟩) ?_) | (refine kO 6 rfl ?_; refine rLen rfl rfl rfl rfl rfl rfl ?_) | refine oN ?_ | refine aS ?_ | refine aR ?_ | refine aK ?_ | refine aT ?_ | refine aC rfl ?_ | refine bPf (by omega) ?_); (try conv => whnf))
    (done)
theorem ats (a b : List Int) (s : Int) (hs : -3 ≤ s ∧ s ≤ 3) (la : a.length ≤ 14) (lb : b.length ≤ 14) (i : Nat) (hi : i ≤ 30) :
    Sat cx.P cx.gl 44 [L a, I ((i : Int) - 3)] (.one (I ((padA a).getD i 0))) ∧ Sat cx.P cx.gl 44 [L b, I ((i : Int) - 3 - s)] (.one (I ((padB b s).getD i 0))) := by
  have h1 := forceAt_sat a ((i : Int) - 3) (by omega) (by omega)
  have h2 := forceAt_sat b ((i : Int) - 3 - s) (by omega) (by omega)
  rw [padA_at] at h1
  rw [padB_at b s hs] at h2
  exact ⟨h1, h2⟩
theorem unitOf0_sat (a b : List Int) (s : Int) (hs : -3 ≤ s ∧ s ≤ 3) (ha : ∀ x ∈ a, -100 ≤ x ∧ x ≤ 100) (hb : ∀ x ∈ b, -100 ≤ x ∧ x ≤ 100) (la : a.length ≤ 14) (lb : b.length = a.length) :
    Sat cx.P cx.gl 13 [L a, L b, I s, I 0] (.one (I (unL (kindL (padA a) (padB b s) 0)))) := by
  obtain ⟨sa, sb⟩ := sm_pads hs ha hb la (by omega)
  have hat := ats a b s hs la (by omega)
  have hN := padA_len a
  have hM := padB_len b s hs
  generalize padA a = A at *
  generalize padB b s = B at *
  refine Sat_of_awp (fn := f13) cx_ok (by kernel_rfl) (by kernel_rfl) rfl (by kernel_rfl) (Nat.le_of_ble_eq_true rfl) ?_
  repeat ((first | refine oP rfl ?_ | refine rP rfl (fun _ z => z) ?_ | refine oN ?_ | refine aS ?_ | refine aR ?_ | refine aB ?_ | refine aL ?_); (try conv => whnf))
  refine loop_ind (ι := Nat) (fun i => i ≤ A.length) (fun i => A.length - i) (fun i => ⟨[(0, vL a), (1, vL b), (2, vI s), (3, vI 0), (9, vI (unL (sumsL (axL A A B A.length) i))), (10, vI (psum (axL A A B A.length) i)), (11, vI ((i : Int) - 3))], [], 0⟩) 0 (canon_auto (by kernel_rfl)) (Nat.zero_le _) ?_
  intro i hi
  by_cases hlt : i < A.length
  case neg =>
    obtain rfl : i = A.length := by omega
    rw [show kindL A B 0 = sumsL (axL A A B A.length) A.length by unfold kindL; rw [if_pos rfl, axL_len]]
    repeat ((first | refine oP rfl ?_ | refine rP rfl (fun _ z => z) ?_ | (refine kO 1 rfl ?_; first | refine rAdd rfl rfl rfl (by omega) ?_ | refine rG (fun _ z => z) ?_) | (refine kO 6 rfl ?_; refine rLen rfl rfl rfl rfl rfl rfl ?_) | refine oN ?_ | refine aS ?_ | refine aR ?_ | refine aX ?_ | refine aT ?_ | refine aC rfl ?_ | refine bPf (by omega) ?_); (try conv => whnf))
    (done)
  have hi30 : i ≤ 30 := by have := sa.2; omega
  obtain ⟨g1, g2⟩ := hat i hi30
  have b1 := sa.at i
  have b2 := sb.at i
  have b3 := sa.rs sb i
  have b4 := (sa).thrust sa sb A.length (by omega) i
  have b5 := (sa).thrust sa sb A.length (by omega) (i + 1)
  have b6 := (sa).ax sa sb i
  rw [axF_next] at b6
  have t1 := thr_next (t := A) (a := A) (b := B) hlt
  have u1 := uT_next (l := axL A A B A.length) i
  have u2 : 0 ≤ unL (sumsL (axL A A B A.length) i) ∧ unL (sumsL (axL A A B A.length) i) ≤ 16000000 := unL_bound (by decide) fun x hx => by
    obtain ⟨j, _, rfl⟩ := List.mem_map.1 hx
    exact (sa).thrust sa sb A.length (by omega) j
  repeat ((first | refine oP rfl ?_ | refine rP rfl (fun _ z => z) ?_ | (refine kO 1 rfl ?_; first | refine rAdd rfl rfl rfl (by omega) ?_ | refine rG (fun _ z => z) ?_) | (refine kO 6 rfl ?_; refine rLen rfl rfl rfl rfl rfl rfl ?_) | refine oN ?_ | refine aS ?_ | refine aR ?_ | refine aK ?_ | refine aB ?_ | refine aC rfl ?_ | refine bPt (by omega) ?_ | refine aL ?_); (try conv => whnf))
  refine loop_ind (ι := Nat) (fun j => j ≤ i) (fun j => i - j) (fun j => ⟨[(0, vL a), (1, vL b), (2, vI s), (3, vI 0), (9, vI (unL (sumsL (axL A A B A.length) i))), (10, vI (psum (axL A A B A.length) i)), (11, vI ((i : Int) - 3)), (12, vI (rs A B j)), (13, vI ((j : Int) - 3))], [], 0⟩) 0 (canon_auto (by kernel_rfl)) (Nat.zero_le _) ?_
  intro j hj
  by_cases hji : j < i
  · obtain ⟨g3, g4⟩ := hat j (by omega)
    have c1 := sa.at j
    have c2 := sb.at j
    have c3 := sa.rs sb j
    have c4 := rs_next A B j
    generalize A.getD j 0 = x at *
    generalize B.getD j 0 = y at *
    repeat ((first | refine oP rfl ?_ | refine rP rfl (fun _ z => z) ?_ | (refine kO 1 rfl ?_; first | refine rAdd rfl rfl rfl (by omega) ?_ | refine rSub rfl rfl rfl (by omega) ?_ | refine rG (fun _ z => z) ?_) | (refine kO 7 rfl ?_; first | refine rG (fun _ z => ⟨_, g3, z⟩) ?_ | refine rG (fun _ z => ⟨_, g4, z⟩) ?_) | refine oN ?_ | refine aS ?_ | refine aR ?_ | refine aK ?_ | refine aB ?_ | refine aC rfl ?_ | refine bPt (by omega) ?_); (try conv => whnf))
    exact ⟨j + 1, hji, by omega, canon_auto (by rw [c4, show ((j + 1 : Nat) : Int) - 3 = (j : Int) - 3 + 1 by omega]; kernel_rfl)⟩
  · obtain rfl : j = i := by omega
    generalize A.getD j 0 = x at *
    generalize B.getD j 0 = y at *
    generalize rs A B j = r at *
    generalize hp : x * (2 * r + x + y) = p at *
    generalize psum (axL A A B A.length) j = q at *
    rw [t1] at u1 b5
    have z1 := size_sat (q + p) (by omega) (by omega)
    repeat ((first | refine oP rfl ?_ | refine rP rfl (fun _ z => z) ?_ | (refine kO 1 rfl ?_; first | refine rAdd rfl rfl rfl (by omega) ?_ | refine rSub rfl rfl rfl (by omega) ?_ | refine rMul rfl rfl rfl (by omega) ?_ | refine rG (fun _ z => z) ?_) | (refine kO 7 rfl ?_; first | refine rG (fun _ z => ⟨_, g1, z⟩) ?_ | refine rG (fun _ z => ⟨_, g2, z⟩) ?_) | refine oN ?_ | refine aS ?_ | refine aR ?_ | refine aK ?_ | refine aX ?_ | refine aC rfl ?_ | refine bT ?_ | refine bF ?_ | refine bPf (by omega) ?_ | refine oY rfl rfl rfl ?_ | refine oZ rfl rfl rfl ?_); (try conv => whnf))
    rw [hp]
    repeat ((first | refine oP rfl ?_ | refine rP rfl (fun _ z => z) ?_ | (refine kO 1 rfl ?_; refine rAdd rfl rfl rfl (by omega) ?_) | (refine kO 7 rfl ?_; refine rG (fun _ z => ⟨_, z1, z⟩) ?_) | (refine kO 6 rfl ?_; refine rG (fun _ z => z) ?_) | refine oN ?_ | refine aR ?_); (try conv => whnf))
    exact ⟨j + 1, hlt, by omega, canon_auto (by rw [t1, u1, show ((j + 1 : Nat) : Int) - 3 = (j : Int) - 3 + 1 by omega]; kernel_rfl)⟩
theorem unitOf1_sat (a b : List Int) (s : Int) (hs : -3 ≤ s ∧ s ≤ 3) (ha : ∀ x ∈ a, -100 ≤ x ∧ x ≤ 100) (hb : ∀ x ∈ b, -100 ≤ x ∧ x ≤ 100) (la : a.length ≤ 14) (lb : b.length = a.length) :
    Sat cx.P cx.gl 13 [L a, L b, I s, I 1] (.one (I (unL (kindL (padA a) (padB b s) 1)))) := by
  obtain ⟨sa, sb⟩ := sm_pads hs ha hb la (by omega)
  have hat := ats a b s hs la (by omega)
  have hN := padA_len a
  have hM := padB_len b s hs
  generalize padA a = A at *
  generalize padB b s = B at *
  refine Sat_of_awp (fn := f13) cx_ok (by kernel_rfl) (by kernel_rfl) rfl (by kernel_rfl) (Nat.le_of_ble_eq_true rfl) ?_
  repeat ((first | refine oP rfl ?_ | refine rP rfl (fun _ z => z) ?_ | refine oN ?_ | refine aS ?_ | refine aR ?_ | refine aB ?_ | refine aL ?_); (try conv => whnf))
  refine loop_ind (ι := Nat) (fun i => i ≤ A.length) (fun i => A.length - i) (fun i => ⟨[(0, vL a), (1, vL b), (2, vI s), (3, vI 1), (9, vI (unL (sumsL (axL B A B A.length) i))), (10, vI (psum (axL B A B A.length) i)), (11, vI ((i : Int) - 3))], [], 0⟩) 0 (canon_auto (by kernel_rfl)) (Nat.zero_le _) ?_
  intro i hi
  by_cases hlt : i < A.length
  case neg =>
    obtain rfl : i = A.length := by omega
    rw [show kindL A B 1 = sumsL (axL B A B A.length) A.length by unfold kindL; rw [if_neg (by decide), if_pos rfl, axL_len]]
    repeat ((first | refine oP rfl ?_ | refine rP rfl (fun _ z => z) ?_ | (refine kO 1 rfl ?_; first | refine rAdd rfl rfl rfl (by omega) ?_ | refine rG (fun _ z => z) ?_) | (refine kO 6 rfl ?_; refine rLen rfl rfl rfl rfl rfl rfl ?_) | refine oN ?_ | refine aS ?_ | refine aR ?_ | refine aX ?_ | refine aT ?_ | refine aC rfl ?_ | refine bPf (by omega) ?_); (try conv => whnf))
    (done)
  have hi30 : i ≤ 30 := by have := sa.2; omega
  obtain ⟨g1, g2⟩ := hat i hi30
  have b1 := sa.at i
  have b2 := sb.at i
  have b3 := sa.rs sb i
  have b4 := (sb).thrust sa sb A.length (by omega) i
  have b5 := (sb).thrust sa sb A.length (by omega) (i + 1)
  have b6 := (sb).ax sa sb i
  rw [axF_next] at b6
  have t1 := thr_next (t := B) (a := A) (b := B) hlt
  have u1 := uT_next (l := axL B A B A.length) i
  have u2 : 0 ≤ unL (sumsL (axL B A B A.length) i) ∧ unL (sumsL (axL B A B A.length) i) ≤ 16000000 := unL_bound (by decide) fun x hx => by
    obtain ⟨j, _, rfl⟩ := List.mem_map.1 hx
    exact (sb).thrust sa sb A.length (by omega) j
  repeat ((first | refine oP rfl ?_ | refine rP rfl (fun _ z => z) ?_ | (refine kO 1 rfl ?_; first | refine rAdd rfl rfl rfl (by omega) ?_ | refine rG (fun _ z => z) ?_) | (refine kO 6 rfl ?_; refine rLen rfl rfl rfl rfl rfl rfl ?_) | refine oN ?_ | refine aS ?_ | refine aR ?_ | refine aK ?_ | refine aB ?_ | refine aC rfl ?_ | refine bPt (by omega) ?_ | refine aL ?_); (try conv => whnf))
  refine loop_ind (ι := Nat) (fun j => j ≤ i) (fun j => i - j) (fun j => ⟨[(0, vL a), (1, vL b), (2, vI s), (3, vI 1), (9, vI (unL (sumsL (axL B A B A.length) i))), (10, vI (psum (axL B A B A.length) i)), (11, vI ((i : Int) - 3)), (12, vI (rs A B j)), (13, vI ((j : Int) - 3))], [], 0⟩) 0 (canon_auto (by kernel_rfl)) (Nat.zero_le _) ?_
  intro j hj
  by_cases hji : j < i
  · obtain ⟨g3, g4⟩ := hat j (by omega)
    have c1 := sa.at j
    have c2 := sb.at j
    have c3 := sa.rs sb j
    have c4 := rs_next A B j
    generalize A.getD j 0 = x at *
    generalize B.getD j 0 = y at *
    repeat ((first | refine oP rfl ?_ | refine rP rfl (fun _ z => z) ?_ | (refine kO 1 rfl ?_; first | refine rAdd rfl rfl rfl (by omega) ?_ | refine rSub rfl rfl rfl (by omega) ?_ | refine rG (fun _ z => z) ?_) | (refine kO 7 rfl ?_; first | refine rG (fun _ z => ⟨_, g3, z⟩) ?_ | refine rG (fun _ z => ⟨_, g4, z⟩) ?_) | refine oN ?_ | refine aS ?_ | refine aR ?_ | refine aK ?_ | refine aB ?_ | refine aC rfl ?_ | refine bPt (by omega) ?_); (try conv => whnf))
    exact ⟨j + 1, hji, by omega, canon_auto (by rw [c4, show ((j + 1 : Nat) : Int) - 3 = (j : Int) - 3 + 1 by omega]; kernel_rfl)⟩
  · obtain rfl : j = i := by omega
    generalize A.getD j 0 = x at *
    generalize B.getD j 0 = y at *
    generalize rs A B j = r at *
    generalize hp : y * (2 * r + x + y) = p at *
    generalize psum (axL B A B A.length) j = q at *
    rw [t1] at u1 b5
    have z1 := size_sat (q + p) (by omega) (by omega)
    repeat ((first | refine oP rfl ?_ | refine rP rfl (fun _ z => z) ?_ | (refine kO 1 rfl ?_; first | refine rAdd rfl rfl rfl (by omega) ?_ | refine rSub rfl rfl rfl (by omega) ?_ | refine rMul rfl rfl rfl (by omega) ?_ | refine rG (fun _ z => z) ?_) | (refine kO 7 rfl ?_; first | refine rG (fun _ z => ⟨_, g1, z⟩) ?_ | refine rG (fun _ z => ⟨_, g2, z⟩) ?_) | refine oN ?_ | refine aS ?_ | refine aR ?_ | refine aX ?_ | refine aC rfl ?_ | refine bT ?_ | refine bPf (by omega) ?_ | refine oY rfl rfl rfl ?_ | refine oZ rfl rfl rfl ?_); (try conv => whnf))
    rw [hp]
    repeat ((first | refine oP rfl ?_ | refine rP rfl (fun _ z => z) ?_ | (refine kO 1 rfl ?_; refine rAdd rfl rfl rfl (by omega) ?_) | (refine kO 7 rfl ?_; refine rG (fun _ z => ⟨_, z1, z⟩) ?_) | (refine kO 6 rfl ?_; refine rG (fun _ z => z) ?_) | refine oN ?_ | refine aR ?_); (try conv => whnf))
    exact ⟨j + 1, hlt, by omega, canon_auto (by rw [t1, u1, show ((j + 1 : Nat) : Int) - 3 = (j : Int) - 3 + 1 by omega]; kernel_rfl)⟩
theorem unitOf2_sat (a b : List Int) (s : Int) (hs : -3 ≤ s ∧ s ≤ 3) (ha : ∀ x ∈ a, -100 ≤ x ∧ x ≤ 100) (hb : ∀ x ∈ b, -100 ≤ x ∧ x ≤ 100) (la : a.length ≤ 14) (lb : b.length = a.length) :
    Sat cx.P cx.gl 13 [L a, L b, I s, I 2] (.one (I (unL (kindL (padA a) (padB b s) 2)))) := by
  obtain ⟨sa, sb⟩ := sm_pads hs ha hb la (by omega)
  have hat := ats a b s hs la (by omega)
  have hN := padA_len a
  have hM := padB_len b s hs
  generalize padA a = A at *
  generalize padB b s = B at *
  refine Sat_of_awp (fn := f13) cx_ok (by kernel_rfl) (by kernel_rfl) rfl (by kernel_rfl) (Nat.le_of_ble_eq_true rfl) ?_
  repeat ((first | refine oP rfl ?_ | refine rP rfl (fun _ z => z) ?_ | refine oN ?_ | refine aS ?_ | refine aR ?_ | refine aB ?_ | refine aL ?_); (try conv => whnf))
  refine loop_ind (ι := Nat) (fun i => i ≤ A.length) (fun i => A.length - i) (fun i => ⟨[(0, vL a), (1, vL b), (2, vI s), (3, vI 2), (9, vI (unL (rdIL A B i))), (10, vI (0)), (11, vI ((i : Int) - 3))], [], 0⟩) 0 (canon_auto (by kernel_rfl)) (Nat.zero_le _) ?_
  intro i hi
  by_cases hlt : i < A.length
  case neg =>
    obtain rfl : i = A.length := by omega
    repeat ((first | refine oP rfl ?_ | refine rP rfl (fun _ z => z) ?_ | (refine kO 1 rfl ?_; first | refine rAdd rfl rfl rfl (by omega) ?_ | refine rG (fun _ z => z) ?_) | (refine kO 6 rfl ?_; refine rLen rfl rfl rfl rfl rfl rfl ?_) | refine oN ?_ | refine aS ?_ | refine aR ?_ | refine aX ?_ | refine aT ?_ | refine aC rfl ?_ | refine bPf (by omega) ?_); (try conv => whnf))
    (rfl)
  have hi30 : i ≤ 30 := by have := sa.2; omega
  obtain ⟨g1, g2⟩ := hat i hi30
  have b1 := sa.at i
  have b2 := sb.at i
  have b3 := sa.rs sb i
  have b4 := sa.rd sb i
  have u1 := uI_next (a := A) (b := B) i
  repeat ((first | refine oP rfl ?_ | refine rP rfl (fun _ z => z) ?_ | (refine kO 1 rfl ?_; first | refine rAdd rfl rfl rfl (by omega) ?_ | refine rG (fun _ z => z) ?_) | (refine kO 6 rfl ?_; refine rLen rfl rfl rfl rfl rfl rfl ?_) | refine oN ?_ | refine aS ?_ | refine aR ?_ | refine aK ?_ | refine aB ?_ | refine aC rfl ?_ | refine bPt (by omega) ?_ | refine aL ?_); (try conv => whnf))
  refine loop_ind (ι := Nat) (fun j => j ≤ i) (fun j => i - j) (fun j => ⟨[(0, vL a), (1, vL b), (2, vI s), (3, vI 2), (9, vI (unL (rdIL A B i))), (10, vI (0)), (11, vI ((i : Int) - 3)), (12, vI (rs A B j)), (13, vI ((j : Int) - 3))], [], 0⟩) 0 (canon_auto (by kernel_rfl)) (Nat.zero_le _) ?_
  intro j hj
  by_cases hji : j < i
  · obtain ⟨g3, g4⟩ := hat j (by omega)
    have c1 := sa.at j
    have c2 := sb.at j
    have c3 := sa.rs sb j
    have c4 := rs_next A B j
    generalize A.getD j 0 = x at *
    generalize B.getD j 0 = y at *
    repeat ((first | refine oP rfl ?_ | refine rP rfl (fun _ z => z) ?_ | (refine kO 1 rfl ?_; first | refine rAdd rfl rfl rfl (by omega) ?_ | refine rSub rfl rfl rfl (by omega) ?_ | refine rG (fun _ z => z) ?_) | (refine kO 7 rfl ?_; first | refine rG (fun _ z => ⟨_, g3, z⟩) ?_ | refine rG (fun _ z => ⟨_, g4, z⟩) ?_) | refine oN ?_ | refine aS ?_ | refine aR ?_ | refine aK ?_ | refine aB ?_ | refine aC rfl ?_ | refine bPt (by omega) ?_); (try conv => whnf))
    exact ⟨j + 1, hji, by omega, canon_auto (by rw [c4, show ((j + 1 : Nat) : Int) - 3 = (j : Int) - 3 + 1 by omega]; kernel_rfl)⟩
  · obtain rfl : j = i := by omega
    generalize A.getD j 0 = x at *
    generalize B.getD j 0 = y at *
    generalize rs A B j = r at *
    generalize hp : x * (x - y) = p at *
    have z1 := size_sat p (by omega) (by omega)
    repeat ((first | refine oP rfl ?_ | refine rP rfl (fun _ z => z) ?_ | (refine kO 1 rfl ?_; first | refine rSub rfl rfl rfl (by omega) ?_ | refine rMul rfl rfl rfl (by omega) ?_ | refine rG (fun _ z => z) ?_) | (refine kO 7 rfl ?_; first | refine rG (fun _ z => ⟨_, g1, z⟩) ?_ | refine rG (fun _ z => ⟨_, g2, z⟩) ?_) | refine oN ?_ | refine aS ?_ | refine aR ?_ | refine aK ?_ | refine aX ?_ | refine aC rfl ?_ | refine bF ?_ | refine bPf (by omega) ?_ | refine oY rfl rfl rfl ?_); (try conv => whnf))
    rw [hp]
    repeat ((first | refine oP rfl ?_ | refine rP rfl (fun _ z => z) ?_ | (refine kO 1 rfl ?_; refine rAdd rfl rfl rfl (by omega) ?_) | (refine kO 7 rfl ?_; refine rG (fun _ z => ⟨_, z1, z⟩) ?_) | (refine kO 6 rfl ?_; refine rG (fun _ z => z) ?_) | refine oN ?_ | refine aR ?_); (try conv => whnf))
    exact ⟨j + 1, hlt, by omega, canon_auto (by rw [u1, show ((j + 1 : Nat) : Int) - 3 = (j : Int) - 3 + 1 by omega]; kernel_rfl)⟩
theorem unitOf3_sat (a b : List Int) (s : Int) (hs : -3 ≤ s ∧ s ≤ 3) (ha : ∀ x ∈ a, -100 ≤ x ∧ x ≤ 100) (hb : ∀ x ∈ b, -100 ≤ x ∧ x ≤ 100) (la : a.length ≤ 14) (lb : b.length = a.length) :
    Sat cx.P cx.gl 13 [L a, L b, I s, I 3] (.one (I (unL (kindL (padA a) (padB b s) 3)))) := by
  obtain ⟨sa, sb⟩ := sm_pads hs ha hb la (by omega)
  have hat := ats a b s hs la (by omega)
  have hN := padA_len a
  have hM := padB_len b s hs
  generalize padA a = A at *
  generalize padB b s = B at *
  refine Sat_of_awp (fn := f13) cx_ok (by kernel_rfl) (by kernel_rfl) rfl (by kernel_rfl) (Nat.le_of_ble_eq_true rfl) ?_
  repeat ((first | refine oP rfl ?_ | refine rP rfl (fun _ z => z) ?_ | refine oN ?_ | refine aS ?_ | refine aR ?_ | refine aB ?_ | refine aL ?_); (try conv => whnf))
  refine loop_ind (ι := Nat) (fun i => i ≤ A.length) (fun i => A.length - i) (fun i => ⟨[(0, vL a), (1, vL b), (2, vI s), (3, vI 3), (9, vI (unL (rdOL A B i))), (10, vI (0)), (11, vI ((i : Int) - 3))], [], 0⟩) 0 (canon_auto (by kernel_rfl)) (Nat.zero_le _) ?_
  intro i hi
  by_cases hlt : i < A.length
  case neg =>
    obtain rfl : i = A.length := by omega
    repeat ((first | refine oP rfl ?_ | refine rP rfl (fun _ z => z) ?_ | (refine kO 1 rfl ?_; first | refine rAdd rfl rfl rfl (by omega) ?_ | refine rG (fun _ z => z) ?_) | (refine kO 6 rfl ?_; refine rLen rfl rfl rfl rfl rfl rfl ?_) | refine oN ?_ | refine aS ?_ | refine aR ?_ | refine aX ?_ | refine aT ?_ | refine aC rfl ?_ | refine bPf (by omega) ?_); (try conv => whnf))
    (rfl)
  have hi30 : i ≤ 30 := by have := sa.2; omega
  obtain ⟨g1, g2⟩ := hat i hi30
  have b1 := sa.at i
  have b2 := sb.at i
  have b3 := sa.rs sb i
  have b4 := sa.rd sb i
  have u1 := uO_next (a := A) (b := B) i
  repeat ((first | refine oP rfl ?_ | refine rP rfl (fun _ z => z) ?_ | (refine kO 1 rfl ?_; first | refine rAdd rfl rfl rfl (by omega) ?_ | refine rG (fun _ z => z) ?_) | (refine kO 6 rfl ?_; refine rLen rfl rfl rfl rfl rfl rfl ?_) | refine oN ?_ | refine aS ?_ | refine aR ?_ | refine aK ?_ | refine aB ?_ | refine aC rfl ?_ | refine bPt (by omega) ?_ | refine aL ?_); (try conv => whnf))
  refine loop_ind (ι := Nat) (fun j => j ≤ i) (fun j => i - j) (fun j => ⟨[(0, vL a), (1, vL b), (2, vI s), (3, vI 3), (9, vI (unL (rdOL A B i))), (10, vI (0)), (11, vI ((i : Int) - 3)), (12, vI (rs A B j)), (13, vI ((j : Int) - 3))], [], 0⟩) 0 (canon_auto (by kernel_rfl)) (Nat.zero_le _) ?_
  intro j hj
  by_cases hji : j < i
  · obtain ⟨g3, g4⟩ := hat j (by omega)
    have c1 := sa.at j
    have c2 := sb.at j
    have c3 := sa.rs sb j
    have c4 := rs_next A B j
    generalize A.getD j 0 = x at *
    generalize B.getD j 0 = y at *
    repeat ((first | refine oP rfl ?_ | refine rP rfl (fun _ z => z) ?_ | (refine kO 1 rfl ?_; first | refine rAdd rfl rfl rfl (by omega) ?_ | refine rSub rfl rfl rfl (by omega) ?_ | refine rG (fun _ z => z) ?_) | (refine kO 7 rfl ?_; first | refine rG (fun _ z => ⟨_, g3, z⟩) ?_ | refine rG (fun _ z => ⟨_, g4, z⟩) ?_) | refine oN ?_ | refine aS ?_ | refine aR ?_ | refine aK ?_ | refine aB ?_ | refine aC rfl ?_ | refine bPt (by omega) ?_); (try conv => whnf))
    exact ⟨j + 1, hji, by omega, canon_auto (by rw [c4, show ((j + 1 : Nat) : Int) - 3 = (j : Int) - 3 + 1 by omega]; kernel_rfl)⟩
  · obtain rfl : j = i := by omega
    generalize A.getD j 0 = x at *
    generalize B.getD j 0 = y at *
    generalize rs A B j = r at *
    generalize hp : y * (x - y) = p at *
    have z1 := size_sat p (by omega) (by omega)
    repeat ((first | refine oP rfl ?_ | refine rP rfl (fun _ z => z) ?_ | (refine kO 1 rfl ?_; first | refine rSub rfl rfl rfl (by omega) ?_ | refine rMul rfl rfl rfl (by omega) ?_ | refine rG (fun _ z => z) ?_) | (refine kO 7 rfl ?_; first | refine rG (fun _ z => ⟨_, g1, z⟩) ?_ | refine rG (fun _ z => ⟨_, g2, z⟩) ?_) | refine oN ?_ | refine aS ?_ | refine aR ?_ | refine aX ?_ | refine aC rfl ?_ | refine bT ?_ | refine bF ?_ | refine bPf (by omega) ?_ | refine oY rfl rfl rfl ?_); (try conv => whnf))
    rw [hp]
    repeat ((first | refine oP rfl ?_ | refine rP rfl (fun _ z => z) ?_ | (refine kO 1 rfl ?_; refine rAdd rfl rfl rfl (by omega) ?_) | (refine kO 7 rfl ?_; refine rG (fun _ z => ⟨_, z1, z⟩) ?_) | (refine kO 6 rfl ?_; refine rG (fun _ z => z) ?_) | refine oN ?_ | refine aR ?_); (try conv => whnf))
    exact ⟨j + 1, hlt, by omega, canon_auto (by rw [u1, show ((j + 1 : Nat) : Int) - 3 = (j : Int) - 3 + 1 by omega]; kernel_rfl)⟩
theorem forceUnitOf_sat (a b : List Int) (s k : Int) (hv : VW a b) (la : a.length ≤ 14) (hs : -3 ≤ s ∧ s ≤ 3) (hk : 0 ≤ k ∧ k ≤ 3) : Sat cx.P cx.gl 13 [L a, L b, I s, I k] (.one (I (unitV (shI a s) (shO b s) k))) := by
  have e : unL (kindL (padA a) (padB b s) k) = unitV (shI a s) (shO b s) k := by
    unfold unitV shI shO
    by_cases h : 0 ≤ s
    · rw [if_pos h, if_pos h, pads_pos a b s k hv.len ⟨h, hs.2⟩]; rfl
    · rw [if_neg h, if_neg h, pads_neg a b s k hv.len ⟨hs.1, by omega⟩]; rfl
  rw [← e]
  have h4 : k = 0 ∨ k = 1 ∨ k = 2 ∨ k = 3 := by omega
  rcases h4 with rfl | rfl | rfl | rfl
  · exact unitOf0_sat a b s hs hv.ra hv.rb la hv.len
  · exact unitOf1_sat a b s hs hv.ra hv.rb la hv.len
  · exact unitOf2_sat a b s hs hv.ra hv.rb la hv.len
  · exact unitOf3_sat a b s hs hv.ra hv.rb la hv.len
end Go.Proofs.Tryd
