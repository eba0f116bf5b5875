/- Parts of the proof, joined. -/
import Derived.Test.YticiebakinlmoaaVe
import Derived.Test.YticiebakinlmoaaVc
import Derived.Test.YticiebakinlmoaaD
import Derived.Test.YticiebakinlmoaaVd
import Derived.Test.YticiebakinlmoaaRows
namespace Go.Proofs.Try
open Go.Fw Go.IntWalk Go.Plain
set_option maxRecDepth 100000
set_option maxHeartbeats 8000000
/-! ### True factors -/
def enN (n : Int) (s : Sp) : Int := if n % 2 = 1 then s.2.2.1 else s.1
def enD (n : Int) (s : Sp) : Int := if n % 2 = 1 then s.2.2.2 else s.2.1
def tsT (m : Int) (ch : List Sp) (b : List Int) (o : Nat) : Nat → Int × Int
  | 0 => (m, 1)
  | k + 1 => (lowNum ((tsT m ch b o k).1 * enN (b.getD (o + k) 0) (ch.getD k (0, 0, 0, 0))) ((tsT m ch b o k).2 * enD (b.getD (o + k) 0) (ch.getD k (0, 0, 0, 0))),
      lowDen ((tsT m ch b o k).1 * enN (b.getD (o + k) 0) (ch.getD k (0, 0, 0, 0))) ((tsT m ch b o k).2 * enD (b.getD (o + k) 0) (ch.getD k (0, 0, 0, 0))))
theorem en_ok {n : Int} {q : Sp} (h : facErr q = 0) : (1 ≤ enN n q ∧ enN n q ≤ 1000) ∧ (1 ≤ enD n q ∧ enD n q ≤ 1000) ∧ Int.gcd (enN n q) (enD n q) = 1 ∧ q.1 * enD n q ≤ enN n q * q.2.1 ∧ enN n q * q.2.2.2 ≤ q.2.2.1 * enD n q := by
  obtain ⟨h1, h2, h3, h4⟩ := facErr_zero h
  unfold enN enD
  split
  · exact ⟨by omega, by omega, h3, by omega, Int.le_refl _⟩
  · exact ⟨by omega, by omega, h2, Int.le_refl _, by rw [Int.mul_comm q.2.2.1] at h4 ⊢; omega⟩
theorem tsT_ok {m : Int} {ch : List Sp} {b : List Int} {o : Nat} (hm : 1 ≤ m ∧ m ≤ 4196) (hc : ∀ q ∈ ch, facErr q = 0) : ∀ k, k ≤ ch.length →
    (1 ≤ (tsT m ch b o k).1 ∧ (tsT m ch b o k).1 ≤ 4196 * 1000 ^ k) ∧ (1 ≤ (tsT m ch b o k).2 ∧ (tsT m ch b o k).2 ≤ 1000 ^ k) ∧
    m * (scT ch k).1 * (tsT m ch b o k).2 ≤ (tsT m ch b o k).1 * (scT ch k).2.1 ∧ (tsT m ch b o k).1 * (scT ch k).2.2.2 ≤ m * (scT ch k).2.2.1 * (tsT m ch b o k).2 := by
  intro k
  induction k with
  | zero => intro _; simp only [tsT, scT, List.take_zero, List.foldl_nil]; omega
  | succ k ih =>
    intro hk
    obtain ⟨h1, h2, h3, h4⟩ := ih (by omega)
    have hB := scT_B hc k (by omega)
    have hf := hc _ (sp_mem (show k < ch.length by omega))
    have hq := (facErr_zero hf).1
    obtain ⟨e1, e2, _, e4, e5⟩ := en_ok (n := b.getD (o + k) 0) hf
    rw [scT_succ (show k < ch.length by omega)]
    unfold tsT scStep
    generalize enN (b.getD (o + k) 0) (ch.getD k (0, 0, 0, 0)) = en at *
    generalize enD (b.getD (o + k) 0) (ch.getD k (0, 0, 0, 0)) = ed at *
    generalize ch.getD k (0, 0, 0, 0) = q at *
    generalize tsT m ch b o k = T at *
    generalize scT ch k = S at *
    have p1 := mulP h1 e1
    have p2 := mulP h2 e2
    have p3 := mulP hB.2.1 hq.2.1
    have p4 := mulP hB.2.2.2 hq.2.2.2
    have p5 : 0 ≤ q.1 * ed := Int.mul_nonneg (by omega) (by omega)
    have p6 : 0 ≤ T.1 * S.2.1 := Int.mul_nonneg (by omega) (by omega)
    have p7 : 0 ≤ en * q.2.2.2 := Int.mul_nonneg (by omega) (by omega)
    have p8 : 0 ≤ m * S.2.2.1 * T.2 := Int.mul_nonneg (Int.mul_nonneg (by omega) (by omega)) (by omega)
    have r := low_pos1 (B := 4196 * 1000 ^ k * 1000) p1 ⟨p2.1, by omega⟩
    have r2 := low_le (n := T.1 * en) (d := T.2 * ed) (by omega) (by omega)
    have c1 := cross_mul h3 e4 p5 p6
    have c2 := cross_mul' h4 e5 p7 p8
    rw [Int.pow_succ, ← Int.mul_assoc]
    exact ⟨r.1, ⟨r.2.1, by omega⟩, low_lo (by omega) (by omega) c1, low_hi (by omega) (by omega) c2⟩
theorem pow4' {k : Nat} (h : k ≤ 4) : 4196 * (1000 : Int) ^ k ≤ 4196000000000000 := by
  have := pow4 h
  omega
theorem sz_pos' {n : Int} (h : 1 ≤ n ∧ n ≤ 4196000000000000) : Sz 20000 n := (sz_int (by omega)).mono (by omega)
end Go.Proofs.Try

namespace Go.Proofs.Try
open Go.Fw Go.IntWalk Go.Plain
set_option maxRecDepth 100000
set_option maxHeartbeats 8000000
theorem waveAwake_sat : Sat cx.P cx.gl 4 [] (.one (Bo true)) := fnE_ok cx_ok (L := 300) 40 _ _ _ (by kernel_rfl)
abbrev bRt (n d : Int) : Option Blk := some (.box 51 [.st (J n.sign), .st (.ints (digs n.natAbs)), .st (J d.sign), .st (.ints (digs d.natAbs))])
theorem sign_le {x : Int} (h : x ≤ 0) : x.sign ≤ 0 := by
  have := sgn_facts x
  omega
theorem scale_bounds {e : Int} {ch : List Sp} {l : List Int} {m : Int} {T : Int × Int} (hB : scB 1000000000 (scOf ch)) (hp : 1 ≤ pkV l - e ∧ pkV l + e ≤ 4196) (hm : pkV l - e ≤ m ∧ m ≤ pkV l + e) (hT : 1 ≤ T.2)
    (h3 : m * (scOf ch).1 * T.2 ≤ T.1 * (scOf ch).2.1) (h4 : T.1 * (scOf ch).2.2.2 ≤ m * (scOf ch).2.2.1 * T.2) :
    volLo (pkV l - e) (scOf ch) * T.2 ≤ T.1 ∧ T.1 ≤ volHi (pkV l + e) (scOf ch) * T.2 :=
  ⟨floor_le_cross hB.2.1.1 hT (by omega) hm.1 h3, ceil_ge_cross hB.2.2.2.1 hT (by omega) hm.2 h4⟩
theorem vol_in {e : Int} {ch : List Sp} {l : List Int} (he : 0 ≤ e) (hB : scB 1000000000 (scOf ch)) (hp : 1 ≤ pkV l - e ∧ pkV l + e ≤ 4196) : 0 ≤ volLo (pkV l - e) (scOf ch) ∧ volHi (pkV l + e) (scOf ch) ≤ 4196000000000 := by
  generalize scOf ch = S at *
  have m2 := mulP (A := 4196) (B := 1000000000) (a := pkV l + e) ⟨by omega, hp.2⟩ hB.2.2.1
  refine ⟨Int.ediv_nonneg (Int.mul_nonneg (by omega) (by omega)) (by omega), ?_⟩
  unfold volHi
  have : -((pkV l + e) * S.2.2.1) ≤ -((pkV l + e) * S.2.2.1) / S.2.2.2 := by
    have h1 : -((pkV l + e) * S.2.2.1) * 1 ≥ -((pkV l + e) * S.2.2.1) * S.2.2.2 := Int.mul_le_mul_of_nonpos_left (by omega) (by omega)
    exact (Int.le_ediv_iff_mul_le (by omega)).2 (by omega)
  omega
theorem topWaveVoltage_sat (e : Int) (q : Sp) (ch : List Sp) (st : Int) (l b : List Int) (hq : SpI q) (hch : ∀ s ∈ ch, SpI s) (hl : l.length ≤ maxLen) (hb : ∀ n ∈ b, inI n) : Sat cx.P cx.gl 3 [Ru e q ch, Rc st l, L b] (.one (Bo true)) := by
  have w2 := fewFactors_sat e q ch
  have s1 := bothErr_sat e q ch st l hq hch hl
  have hlen : (ch.map sp).length = ch.length := List.length_map ..
  by_cases h2 : ch.length ≤ 6
  · by_cases h0 : bothErr e q ch st l = 0
    · rw [h0] at s1
      obtain ⟨g1, g2⟩ := bothErr_zero h0
      obtain ⟨he, _, hc4, hfac⟩ := rulesErr_zero g1
      obtain ⟨_, k1, k2, hA⟩ := recErr_zero g2
      by_cases hb1 : b.length < l.length + ch.length
      · refine Sat_of_awp (fn := f3) cx_ok (by kernel_rfl) (by kernel_rfl) rfl (by kernel_rfl) (Nat.le_of_ble_eq_true rfl) ?_
        repeat ((first | refine oP rfl ?_ | refine rP rfl (fun _ z => z) ?_ | (refine kO 1 rfl ?_; first | refine rAdd rfl rfl rfl (by omega) ?_ | refine rG (fun _ z => z) ?_) | (refine kO 2 rfl ?_; refine rG (fun _ z => z) ?_) | (refine kO 3 rfl ?_; first | refine rLdb rfl rfl rfl rfl rfl rfl rfl ?_ | refine rG (fun _ z => z) ?_) | (refine kO 7 rfl ?_; first | refine rG (fun _ z => ⟨_, waveAwake_sat, z⟩) ?_ | refine rG (fun _ z => ⟨_, w2, z⟩) ?_ | refine rG (fun _ z => ⟨_, s1, z⟩) ?_) | (refine kO 6 rfl ?_; first | refine rLen rfl rfl rfl rfl rfl rfl ?_ | refine rLenv rfl rfl rfl rfl rfl rfl ?_) | refine oN ?_ | refine aS ?_ | refine aR ?_ | refine aK ?_ | refine aT ?_ | refine aC rfl ?_ | refine bT ?_ | refine bF ?_ | refine oY rfl rfl rfl ?_ | refine oZ rfl rfl rfl ?_ | refine oUt rfl rfl rfl (by omega) ?_ | refine oUf rfl rfl rfl (by omega) ?_); (try conv => whnf))
        (done)
      · by_cases hb2 : b.length > 80
        · refine Sat_of_awp (fn := f3) cx_ok (by kernel_rfl) (by kernel_rfl) rfl (by kernel_rfl) (Nat.le_of_ble_eq_true rfl) ?_
          repeat ((first | refine oP rfl ?_ | refine rP rfl (fun _ z => z) ?_ | (refine kO 1 rfl ?_; first | refine rAdd rfl rfl rfl (by omega) ?_ | refine rG (fun _ z => z) ?_) | (refine kO 2 rfl ?_; refine rG (fun _ z => z) ?_) | (refine kO 3 rfl ?_; first | refine rLdb rfl rfl rfl rfl rfl rfl rfl ?_ | refine rG (fun _ z => z) ?_) | (refine kO 7 rfl ?_; first | refine rG (fun _ z => ⟨_, waveAwake_sat, z⟩) ?_ | refine rG (fun _ z => ⟨_, w2, z⟩) ?_ | refine rG (fun _ z => ⟨_, s1, z⟩) ?_) | (refine kO 6 rfl ?_; first | refine rLen rfl rfl rfl rfl rfl rfl ?_ | refine rLenv rfl rfl rfl rfl rfl rfl ?_) | refine oN ?_ | refine aS ?_ | refine aR ?_ | refine aK ?_ | refine aT ?_ | refine aC rfl ?_ | refine bF ?_ | refine bPt (by omega) ?_ | refine oY rfl rfl rfl ?_ | refine oUf rfl rfl rfl (by omega) ?_); (try conv => whnf))
          (done)
        · have c1 := copyRules_sat e q ch (by omega)
          have c2 := copyRecord_sat st l (by omega)
          have s2 := figuresOf_sat e q ch st l hq hch (by omega) hl
          have hfe : figE e q ch st l = fgErr l e := by unfold figE; rw [if_neg (by omega)]
          rw [hfe] at s2
          by_cases hf : fgErr l e = 0
          · rw [if_pos hf] at s2
            obtain ⟨j1, j2, j3, j4, j5, j6⟩ := fg_ok k1 k2 hA he hf
            have s3 := voltageOf_sat e q ch hq hch (by omega) (pk l : Nat) (pkV l - e) (pkV l + e) (t30l l e) (t30h l e) (t90l l e) (t90h l e) (hfl l e) (hfh l e)
            rw [j6] at s3
            by_cases hsc : scErr e q ch = 0
            · have hv0 : volErr e q ch 0 = 0 := by unfold volErr; rw [if_neg (by omega)]
              rw [hv0, if_pos rfl] at s3
              obtain ⟨_, _, hB⟩ := scErr_zero hsc
              have hm := mxT_in (l := l) (b := b) he.1 (show 0 < l.length by omega)
              have hTs := fun k hk => tsT_ok (b := b) (o := l.length) (m := mxT l b e l.length) (by omega) hfac k hk
              have hTe := hTs ch.length (Nat.le_refl _)
              have hsb := scale_bounds (T := tsT (mxT l b e l.length) ch b l.length ch.length) hB j1 hm hTe.2.1.1 hTe.2.2.1 hTe.2.2.2
              have hvi := vol_in he.1 hB j1
              have hvl : volLo (pkV l - e) (scOf ch) ≤ volHi (pkV l + e) (scOf ch) := Int.le_of_mul_le_mul_right (Int.le_trans hsb.1 hsb.2) (show 0 < (tsT (mxT l b e l.length) ch b l.length ch.length).2 by omega)
              have hsc2 : scOf ch = scT ch ch.length := rfl
              clear hTe hB
              have s4 := answerFor_sat (volLo (pkV l - e) (scOf ch)) (volHi (pkV l + e) (scOf ch)) (volLo (pkV l - e) (scOf ch) - 1) (volHi (pkV l + e) (scOf ch))
              have s5 := ratioInt_sat (volLo (pkV l - e) (scOf ch)) (by omega)
              have s6 := ratioInt_sat (volHi (pkV l + e) (scOf ch)) (by omega)
              generalize volLo (pkV l - e) (scOf ch) = va at *
              generalize volHi (pkV l + e) (scOf ch) = vb at *
              have ea1 : valE va vb = 0 := by unfold valE valOK; rw [if_pos (by omega), if_pos (by omega)]
              have ea2 : valE (va - 1) vb = 0 := by unfold valE valOK; rw [if_pos (by omega), if_pos (by omega)]
              have ea : ansErr va vb (va - 1) vb = 0 := by unfold ansErr; rw [ea1, ea2, if_neg (by omega)]
              have ev : ansV va vb (va - 1) vb = 2 := by unfold ansV; rw [if_pos (by omega)]
              rw [ea, if_pos rfl, ev] at s4
              have d0 := getD_in hA (show 0 < l.length by omega)
              refine Sat_of_awp (fn := f3) cx_ok (by kernel_rfl) (by kernel_rfl) rfl (by kernel_rfl) (Nat.le_of_ble_eq_true rfl) ?_
              repeat ((first | refine oP rfl ?_ | refine rP rfl (fun _ z => z) ?_ | (refine kO 1 rfl ?_; first | refine rAdd rfl rfl rfl (by omega) ?_ | refine rSub rfl rfl rfl (by omega) ?_ | refine rG (fun _ z => z) ?_) | (refine kO 2 rfl ?_; refine rG (fun _ z => z) ?_) | (refine kO 3 rfl ?_; first | refine rLdr rfl rfl rfl rfl rfl ?_ | refine rLdb rfl rfl rfl rfl rfl rfl rfl ?_ | refine rG (fun _ z => z) ?_) | (refine kO 4 rfl ?_; refine rG (fun _ z => z) ?_) | (refine kO 5 rfl ?_; refine rIdN rfl rfl rfl rfl rfl rfl rfl (by omega) ?_) | (refine kO 7 rfl ?_; first | refine rG (fun _ z => ⟨_, waveAwake_sat, z⟩) ?_ | refine rG (fun _ z => ⟨_, w2, z⟩) ?_ | refine rG (fun _ z => ⟨_, s1, z⟩) ?_ | refine rG (fun _ z => ⟨_, c1, z⟩) ?_ | refine rG (fun _ z => ⟨_, c2, z⟩) ?_ | refine rG (fun _ z => ⟨_, s2, z⟩) ?_ | refine rG (fun _ z => ⟨_, s3, z⟩) ?_ | refine rG (fun _ z => ⟨_, within_p _ _ _, z⟩) ?_) | (refine kO 6 rfl ?_; first | refine rLen rfl rfl rfl rfl rfl rfl ?_ | refine rLenv rfl rfl rfl rfl rfl rfl ?_) | refine oN ?_ | refine aS ?_ | refine aR ?_ | refine aK ?_ | refine aB ?_ | refine aC rfl ?_ | refine bF ?_ | refine bPf (by omega) ?_ | refine aL ?_ | refine oY rfl rfl rfl ?_ | refine oUf rfl rfl rfl (by omega) ?_ | refine dI (by kernel_rfl) ?_); (try conv => whnf))
              -- the greatest sample
              refine loop_ind (ι := Nat) (fun i => i ≤ l.length) (fun i => l.length - i) (fun i => ⟨[(2, vL b), (3, pP 0), (4, pP 1), (9, pP 2), (11, vI (mxT l b e i)), (12, vI i)], [(0, bRu e q ch), (1, bRc st l), (2, bRg va vb)], 3⟩) 0 (canon_auto (by kernel_rfl)) (Nat.zero_le _) ?_
              intro i hi
              by_cases hlt : i < l.length
              · have d1 := getD_in hA hlt
                have d2 := mod_sat (b.getD i 0) (2 * e + 1) (hb _ (getD_mem (by omega))) (by omega)
                have d3 := Int.emod_nonneg (b.getD i 0) (show 2 * e + 1 ≠ 0 by omega)
                have d4 := Int.emod_lt_of_pos (b.getD i 0) (show 0 < 2 * e + 1 by omega)
                repeat ((first | refine oP rfl ?_ | refine rP rfl (fun _ z => z) ?_ | (refine kO 1 rfl ?_; first | refine rAdd rfl rfl rfl (by omega) ?_ | refine rSub rfl rfl rfl (by omega) ?_ | refine rMul rfl rfl rfl (by omega) ?_ | refine rG (fun _ z => z) ?_) | (refine kO 3 rfl ?_; first | refine rLdr rfl rfl rfl rfl rfl ?_ | refine rLdb rfl rfl rfl rfl rfl rfl rfl ?_) | (refine kO 5 rfl ?_; refine rIdN rfl rfl rfl rfl rfl rfl rfl (by omega) ?_) | (refine kO 7 rfl ?_; refine rG (fun _ z => ⟨_, d2, z⟩) ?_) | (refine kO 6 rfl ?_; first | refine rLen rfl rfl rfl rfl rfl rfl ?_ | refine rG (fun _ z => z) ?_) | refine oN ?_ | refine aS ?_ | refine aR ?_ | refine aK ?_ | refine aB ?_ | refine aC rfl ?_ | refine bPt (by omega) ?_ | refine dI (by kernel_rfl) ?_); (try conv => whnf))
                exact ⟨i + 1, hlt, by omega, canon_auto (by kernel_rfl)⟩
              · obtain rfl : i = l.length := by omega
                have s7 := ratioInt_sat (mxT l b e l.length) (by omega)
                generalize mxT l b e l.length = m at *
                repeat ((first | refine oP rfl ?_ | refine rP rfl (fun _ z => z) ?_ | (refine kO 1 rfl ?_; refine rG (fun _ z => z) ?_) | (refine kO 3 rfl ?_; refine rLdb rfl rfl rfl rfl rfl rfl rfl ?_) | (refine kO 4 rfl ?_; refine rG (fun _ z => z) ?_) | (refine kO 7 rfl ?_; refine rG (fun _ z => ⟨_, s7, z⟩) ?_) | (refine kO 6 rfl ?_; refine rLen rfl rfl rfl rfl rfl rfl ?_) | refine oN ?_ | refine aS ?_ | refine aR ?_ | refine aX ?_ | refine aB ?_ | refine aC rfl ?_ | refine bPf (by omega) ?_ | refine aL ?_); (try conv => whnf))
                -- the true factors
                refine loop_ind (ι := Nat) (fun i => i ≤ ch.length) (fun i => ch.length - i) (fun i => ⟨[(2, vL b), (3, pP 0), (4, pP 1), (9, pP 2), (13, pP 3), (14, vI i)], [(0, bRu e q ch), (1, bRc st l), (2, bRg va vb), (3, bRt (tsT m ch b l.length i).1 (tsT m ch b l.length i).2)], 4⟩) 0 (canon_auto (by kernel_rfl)) (Nat.zero_le _) ?_
                intro i hi
                have hT := hTs i hi
                have hp4 := pow4 (k := i) (by omega)
                have hp4' := pow4' (k := i) (by omega)
                by_cases hlt : i < ch.length
                · have hget := sp_get hlt
                  have hQ := en_ok (n := b.getD (l.length + i) 0) (hfac _ (sp_mem hlt))
                  have hs : tsT m ch b l.length (i + 1) = (lowNum ((tsT m ch b l.length i).1 * enN (b.getD (l.length + i) 0) (ch.getD i (0, 0, 0, 0))) ((tsT m ch b l.length i).2 * enD (b.getD (l.length + i) 0) (ch.getD i (0, 0, 0, 0))),
      lowDen ((tsT m ch b l.length i).1 * enN (b.getD (l.length + i) 0) (ch.getD i (0, 0, 0, 0))) ((tsT m ch b l.length i).2 * enD (b.getD (l.length + i) 0) (ch.getD i (0, 0, 0, 0)))) := rfl
                  have d2 := mod_sat (b.getD (l.length + i) 0) 2 (hb _ (getD_mem (by omega))) (by omega)
                  generalize ch.getD i (0, 0, 0, 0) = Q at *
                  obtain ⟨hQ1, hQ2, hQ3, _⟩ := hQ
                  have p1 := fromLow hQ1 hQ2 hQ3
                  have p3 := ratioMul_sat (n := (tsT m ch b l.length i).1) (d := (tsT m ch b l.length i).2) (m := enN (b.getD (l.length + i) 0) Q) (e := enD (b.getD (l.length + i) 0) Q) (sz_pos' (by omega)) (sz_pos' (by omega)) (sz_pos (by omega)) (sz_pos (by omega)) (Int.mul_pos (by omega) (by omega))
                  unfold enN enD at *
                  by_cases hmod : b.getD (l.length + i) 0 % 2 = 1
                  · rw [if_pos hmod, if_pos hmod] at hs p1 p3
                    repeat ((first | refine oP rfl ?_ | refine rP rfl (fun _ z => z) ?_ | (refine kO 1 rfl ?_; first | refine rAdd rfl rfl rfl (by omega) ?_ | refine rG (fun _ z => z) ?_) | (refine kO 3 rfl ?_; first | refine rLdr rfl rfl rfl rfl rfl ?_ | refine rLdb rfl rfl rfl rfl rfl rfl rfl ?_ | refine rG (fun _ z => z) ?_) | (refine kO 4 rfl ?_; refine rG (fun _ z => z) ?_) | (refine kO 5 rfl ?_; first | refine rIdN rfl rfl rfl rfl rfl rfl rfl (by omega) ?_ | refine rIdvN rfl rfl rfl rfl rfl rfl (by assumption) rfl ?_) | (refine kO 7 rfl ?_; first | refine rG (fun _ z => ⟨_, d2, z⟩) ?_ | refine rG (fun _ z => ⟨_, p1, z⟩) ?_ | refine rG (fun _ z => ⟨_, p3, z⟩) ?_) | (refine kO 6 rfl ?_; first | refine rLen rfl rfl rfl rfl rfl rfl ?_ | refine rLenv rfl rfl rfl rfl rfl rfl ?_) | refine oN ?_ | refine aS ?_ | refine aR ?_ | refine aK ?_ | refine aB ?_ | refine aC rfl ?_ | refine bPt (by omega) ?_ | refine dI (by kernel_rfl) ?_); (try conv => whnf))
                    exact ⟨i + 1, hlt, by omega, canon_auto (by rw [hs]; kernel_rfl)⟩
                  · rw [if_neg hmod, if_neg hmod] at hs p1 p3
                    repeat ((first | refine oP rfl ?_ | refine rP rfl (fun _ z => z) ?_ | (refine kO 1 rfl ?_; first | refine rAdd rfl rfl rfl (by omega) ?_ | refine rG (fun _ z => z) ?_) | (refine kO 3 rfl ?_; first | refine rLdr rfl rfl rfl rfl rfl ?_ | refine rLdb rfl rfl rfl rfl rfl rfl rfl ?_ | refine rG (fun _ z => z) ?_) | (refine kO 4 rfl ?_; refine rG (fun _ z => z) ?_) | (refine kO 5 rfl ?_; first | refine rIdN rfl rfl rfl rfl rfl rfl rfl (by omega) ?_ | refine rIdvN rfl rfl rfl rfl rfl rfl (by assumption) rfl ?_) | (refine kO 7 rfl ?_; first | refine rG (fun _ z => ⟨_, d2, z⟩) ?_ | refine rG (fun _ z => ⟨_, p1, z⟩) ?_ | refine rG (fun _ z => ⟨_, p3, z⟩) ?_) | (refine kO 6 rfl ?_; first | refine rLen rfl rfl rfl rfl rfl rfl ?_ | refine rLenv rfl rfl rfl rfl rfl rfl ?_) | refine oN ?_ | refine aS ?_ | refine aR ?_ | refine aK ?_ | refine aB ?_ | refine aC rfl ?_ | refine bPt (by omega) ?_ | refine bPf (by omega) ?_ | refine dI (by kernel_rfl) ?_); (try conv => whnf))
                    exact ⟨i + 1, hlt, by omega, canon_auto (by rw [hs]; kernel_rfl)⟩
                · obtain rfl : i = ch.length := by omega
                  have hz1 := sign_le (x := va * (tsT m ch b l.length ch.length).2 - (tsT m ch b l.length ch.length).1 * 1) (by omega)
                  have hz2 := sign_le (x := (tsT m ch b l.length ch.length).1 * 1 - vb * (tsT m ch b l.length ch.length).2) (by omega)
                  have p1 := ratioCmp_sat (n := va) (d := 1) (m := (tsT m ch b l.length ch.length).1) (e := (tsT m ch b l.length ch.length).2) ((sz_int (by omega)).mono (by omega)) (sz_pos' (by omega)) (sz_pos' (by omega)) (sz_pos' (by omega))
                  have p2 := ratioCmp_sat (n := (tsT m ch b l.length ch.length).1) (d := (tsT m ch b l.length ch.length).2) (m := vb) (e := 1) (sz_pos' (by omega)) (sz_pos' (by omega)) ((sz_int (by omega)).mono (by omega)) (sz_pos' (by omega))
                  clear hTs hT
                  generalize (va * (tsT m ch b l.length ch.length).2 - (tsT m ch b l.length ch.length).1 * 1).sign = z1 at *
                  generalize ((tsT m ch b l.length ch.length).1 * 1 - vb * (tsT m ch b l.length ch.length).2).sign = z2 at *
                  repeat ((first | refine oP rfl ?_ | refine rP rfl (fun _ z => z) ?_ | (refine kO 1 rfl ?_; first | refine rSub rfl rfl rfl (by omega) ?_ | refine rG (fun _ z => z) ?_) | (refine kO 3 rfl ?_; first | refine rLdb rfl rfl rfl rfl rfl rfl rfl ?_ | refine rG (fun _ z => z) ?_) | (refine kO 7 rfl ?_; first | refine rG (fun _ z => ⟨_, s5, z⟩) ?_ | refine rG (fun _ z => ⟨_, s6, z⟩) ?_ | refine rG (fun _ z => ⟨_, p1, z⟩) ?_ | refine rG (fun _ z => ⟨_, p2, z⟩) ?_ | refine rG (fun _ z => ⟨_, s4, z⟩) ?_) | (refine kO 6 rfl ?_; refine rLenv rfl rfl rfl rfl rfl rfl ?_) | refine oN ?_ | refine aS ?_ | refine aR ?_ | refine aK ?_ | refine aX ?_ | refine aT ?_ | refine aC rfl ?_ | refine bPf (by omega) ?_ | refine oY rfl rfl rfl ?_ | refine oUf rfl rfl rfl (by omega) ?_ | refine dI (by kernel_rfl) ?_); (try conv => whnf))
                  (rfl)
            · have h8 : scErr e q ch = 8 := by
                unfold scErr at hsc ⊢
                rw [if_neg (by omega)] at hsc ⊢
                split at hsc
                · omega
                · rename_i h; rw [if_neg h]
              have hv0 : volErr e q ch 0 = 8 := by unfold volErr; rw [if_pos (by omega), h8]
              rw [hv0, if_neg (by omega)] at s3
              refine Sat_of_awp (fn := f3) cx_ok (by kernel_rfl) (by kernel_rfl) rfl (by kernel_rfl) (Nat.le_of_ble_eq_true rfl) ?_
              repeat ((first | refine oP rfl ?_ | refine rP rfl (fun _ z => z) ?_ | (refine kO 1 rfl ?_; first | refine rAdd rfl rfl rfl (by omega) ?_ | refine rG (fun _ z => z) ?_) | (refine kO 2 rfl ?_; refine rG (fun _ z => z) ?_) | (refine kO 3 rfl ?_; first | refine rLdb rfl rfl rfl rfl rfl rfl rfl ?_ | refine rG (fun _ z => z) ?_) | (refine kO 4 rfl ?_; refine rG (fun _ z => z) ?_) | (refine kO 7 rfl ?_; first | refine rG (fun _ z => ⟨_, waveAwake_sat, z⟩) ?_ | refine rG (fun _ z => ⟨_, w2, z⟩) ?_ | refine rG (fun _ z => ⟨_, s1, z⟩) ?_ | refine rG (fun _ z => ⟨_, c1, z⟩) ?_ | refine rG (fun _ z => ⟨_, c2, z⟩) ?_ | refine rG (fun _ z => ⟨_, s2, z⟩) ?_ | refine rG (fun _ z => ⟨_, s3, z⟩) ?_) | (refine kO 6 rfl ?_; first | refine rLen rfl rfl rfl rfl rfl rfl ?_ | refine rLenv rfl rfl rfl rfl rfl rfl ?_) | refine oN ?_ | refine aS ?_ | refine aR ?_ | refine aK ?_ | refine aT ?_ | refine aC rfl ?_ | refine bT ?_ | refine bF ?_ | refine bPf (by omega) ?_ | refine oY rfl rfl rfl ?_ | refine oUf rfl rfl rfl (by omega) ?_ | refine dI (by kernel_rfl) ?_); (try conv => whnf))
              (rfl)
          · rw [if_neg hf] at s2
            have hz : fgErr l e = 21 ∨ fgErr l e = 12 := by
              unfold fgErr at hf ⊢
              repeat' split
              all_goals omega
            rcases hz with hz | hz
            · rw [hz] at s2
              refine Sat_of_awp (fn := f3) cx_ok (by kernel_rfl) (by kernel_rfl) rfl (by kernel_rfl) (Nat.le_of_ble_eq_true rfl) ?_
              repeat ((first | refine oP rfl ?_ | refine rP rfl (fun _ z => z) ?_ | (refine kO 1 rfl ?_; first | refine rAdd rfl rfl rfl (by omega) ?_ | refine rG (fun _ z => z) ?_) | (refine kO 2 rfl ?_; refine rG (fun _ z => z) ?_) | (refine kO 3 rfl ?_; first | refine rLdb rfl rfl rfl rfl rfl rfl rfl ?_ | refine rG (fun _ z => z) ?_) | (refine kO 4 rfl ?_; refine rG (fun _ z => z) ?_) | (refine kO 7 rfl ?_; first | refine rG (fun _ z => ⟨_, waveAwake_sat, z⟩) ?_ | refine rG (fun _ z => ⟨_, w2, z⟩) ?_ | refine rG (fun _ z => ⟨_, s1, z⟩) ?_ | refine rG (fun _ z => ⟨_, c1, z⟩) ?_ | refine rG (fun _ z => ⟨_, c2, z⟩) ?_ | refine rG (fun _ z => ⟨_, s2, z⟩) ?_) | (refine kO 6 rfl ?_; first | refine rLen rfl rfl rfl rfl rfl rfl ?_ | refine rLenv rfl rfl rfl rfl rfl rfl ?_) | refine oN ?_ | refine aS ?_ | refine aR ?_ | refine aK ?_ | refine aT ?_ | refine aC rfl ?_ | refine bT ?_ | refine bF ?_ | refine bPf (by omega) ?_ | refine oY rfl rfl rfl ?_ | refine oZ rfl rfl rfl ?_ | refine oUf rfl rfl rfl (by omega) ?_ | refine dI (by kernel_rfl) ?_); (try conv => whnf))
              (rfl)
            · rw [hz] at s2
              refine Sat_of_awp (fn := f3) cx_ok (by kernel_rfl) (by kernel_rfl) rfl (by kernel_rfl) (Nat.le_of_ble_eq_true rfl) ?_
              repeat ((first | refine oP rfl ?_ | refine rP rfl (fun _ z => z) ?_ | (refine kO 1 rfl ?_; first | refine rAdd rfl rfl rfl (by omega) ?_ | refine rG (fun _ z => z) ?_) | (refine kO 2 rfl ?_; refine rG (fun _ z => z) ?_) | (refine kO 3 rfl ?_; first | refine rLdb rfl rfl rfl rfl rfl rfl rfl ?_ | refine rG (fun _ z => z) ?_) | (refine kO 4 rfl ?_; refine rG (fun _ z => z) ?_) | (refine kO 7 rfl ?_; first | refine rG (fun _ z => ⟨_, waveAwake_sat, z⟩) ?_ | refine rG (fun _ z => ⟨_, w2, z⟩) ?_ | refine rG (fun _ z => ⟨_, s1, z⟩) ?_ | refine rG (fun _ z => ⟨_, c1, z⟩) ?_ | refine rG (fun _ z => ⟨_, c2, z⟩) ?_ | refine rG (fun _ z => ⟨_, s2, z⟩) ?_) | (refine kO 6 rfl ?_; first | refine rLen rfl rfl rfl rfl rfl rfl ?_ | refine rLenv rfl rfl rfl rfl rfl rfl ?_) | refine oN ?_ | refine aS ?_ | refine aR ?_ | refine aK ?_ | refine aT ?_ | refine aC rfl ?_ | refine bT ?_ | refine bF ?_ | refine bPf (by omega) ?_ | refine oY rfl rfl rfl ?_ | refine oUf rfl rfl rfl (by omega) ?_ | refine dI (by kernel_rfl) ?_); (try conv => whnf))
              (rfl)
    · generalize bothErr e q ch st l = z at *
      refine Sat_of_awp (fn := f3) cx_ok (by kernel_rfl) (by kernel_rfl) rfl (by kernel_rfl) (Nat.le_of_ble_eq_true rfl) ?_
      repeat ((first | refine oP rfl ?_ | refine rP rfl (fun _ z => z) ?_ | (refine kO 1 rfl ?_; refine rG (fun _ z => z) ?_) | (refine kO 2 rfl ?_; refine rG (fun _ z => z) ?_) | (refine kO 3 rfl ?_; refine rG (fun _ z => z) ?_) | (refine kO 7 rfl ?_; first | refine rG (fun _ z => ⟨_, waveAwake_sat, z⟩) ?_ | refine rG (fun _ z => ⟨_, w2, z⟩) ?_ | refine rG (fun _ z => ⟨_, s1, z⟩) ?_) | refine oN ?_ | refine aS ?_ | refine aR ?_ | refine aK ?_ | refine aT ?_ | refine aC rfl ?_ | refine bT ?_ | refine bF ?_ | refine oY rfl rfl rfl ?_ | refine oZ rfl rfl rfl ?_ | refine oUt rfl rfl rfl (by omega) ?_ | refine oUf rfl rfl rfl (by omega) ?_); (try conv => whnf))
      (done)
  · refine Sat_of_awp (fn := f3) cx_ok (by kernel_rfl) (by kernel_rfl) rfl (by kernel_rfl) (Nat.le_of_ble_eq_true rfl) ?_
    repeat ((first | refine oP rfl ?_ | refine rP rfl (fun _ z => z) ?_ | (refine kO 2 rfl ?_; refine rG (fun _ z => z) ?_) | (refine kO 3 rfl ?_; refine rG (fun _ z => z) ?_) | (refine kO 7 rfl ?_; first | refine rG (fun _ z => ⟨_, waveAwake_sat, z⟩) ?_ | refine rG (fun _ z => ⟨_, w2, z⟩) ?_) | refine oN ?_ | refine aS ?_ | refine aR ?_ | refine aK ?_ | refine aT ?_ | refine aC rfl ?_ | refine bT ?_ | refine bF ?_ | refine oZ rfl rfl rfl ?_ | refine oUt rfl rfl rfl (by omega) ?_); (try conv => whnf))
    (done)
end Go.Proofs.Try

/-
  The law TopWaveVoltage (chapter 8, through the layers) returns true for all rules, records and changes, and leaves its arguments as they were. No condition.
-/
namespace Go.Proofs.Yticiebakinlmoaa.topWaveVoltage
open Go.Fw Go.ChangeShapes Go.WideShapes Go.ChangeAt Go.RowKit Go.Proofs.Try
theorem own : ownKnob Try.prog.godebug = none := by kernel_rfl
theorem laidOut : laidOutB Try.prog = true := by kernel_rfl
theorem fit_list {d : Nat} {x : SV} (h : FitV cx (d + 1) 29 x) : ∃ l : List Int, x = (false, [.ints l]) ∧ l.length ≤ maxLen ∧ ∀ n ∈ l, inI n := by
  obtain ⟨e, h1⟩ := fitV_one rfl rfl h
  obtain ⟨l, e1, hl, hi⟩ := fit_ints (by rfl) (by rfl) (by rfl) h1
  exact ⟨l, by rw [e, e1], hl, fun n hn => hi n hn⟩
set_option maxRecDepth 100000 in
theorem walk (xs : List SV) (h : FitL cx 5 Try.f3.params.toList xs) : Sat cx.P cx.gl 3 xs (.one (false, [.lit (.bool true)])) := by
  rw [Try.params3] at h
  obtain ⟨x, y, z, rfl, h1, h2, h3⟩ := fitL3 (t := 28) (u := 31) (v := 29) h
  obtain ⟨e, q, ch, rfl, hq, hch, _⟩ := fit_rules h1
  obtain ⟨st, l, rfl, hl, _⟩ := fit_record h2
  obtain ⟨b, rfl, _, hb⟩ := fit_list h3
  exact topWaveVoltage_sat e q ch st l b hq hch hl hb
set_option maxRecDepth 100000 in
theorem lifted (os : Os) (started : os.Started) (H : Type) (enc : TypeId × Value → H) :
    ReturnsInHanded {} Try.checked os 3 .any (Rows.topWaveVoltageSpec.pre6 enc Try.prog Try.f3 Rows.topWaveVoltageRow.domain false) (Rows.topWaveVoltageSpec.post enc Try.prog Try.f3 false true false false) := by
  refine returnsInHanded_of_change (C := Try.checked) own started (by kernel_rfl) Try.func3
    (ChangeSpec.witness6 (enc := enc) (C := Try.checked) false ⟨#[], #[.agg #[.int .i64 0, .int .i64 0, .int .i64 0, .int .i64 0, .int .i64 0, .slice none 0 0], .agg #[.int .i64 0, .slice none 0 0], .slice none 0 0], []⟩ 8 (by kernel_rfl) (by kernel_rfl) (by kernel_rfl) (by kernel_rfl)) ?_
  intro W base args ds gs before hval hW _ _
  exact law_calls (C := cx) (d := 5) cx_ok rfl laidOut (by kernel_rfl) (by kernel_rfl) rfl (by kernel_rfl) rfl
    (fun ds hl => by
      rw [Try.params3] at hl
      match ds, hl with
      | [d1, d2, d3], _ => rfl) walk hval hW
theorem over : Rows.topWaveVoltageRow.holds Try.pinned (OpenSpec.ofChange Rows.topWaveVoltageSpec) :=
  OpenClaim.holds_of_wide 3 Try.f3 rfl rfl rfl rfl rfl rfl rfl ⟨rfl, rfl, rfl, rfl, rfl⟩ rfl rfl rfl rfl rfl (by kernel_rfl) Try.func3 (by kernel_rfl)
    (of_decide_eq_true (by kernel_rfl)) (by unfold Func.isWrapper; first | (rw [if_pos (by decide +kernel)]; kernel_rfl) | (rw [if_neg (by decide +kernel)]; exact ⟨rfl, rfl⟩))
    (fun os started H enc _ => lifted os started H enc)
theorem proved : Rows.TopWaveVoltageSaid := over
end Go.Proofs.Yticiebakinlmoaa.topWaveVoltage
