/- Parts of the proof, joined. -/
import Derived.Test.YtggfcjiahhjcnabGreatDoorVc
import Derived.Test.YtggfcjiahhjcnabGreatDoorWb
import Derived.Test.YtggfcjiahhjcnabGreatDoorM
import Derived.Test.YtggfcjiahhjcnabGreatDoorVa
namespace Go.Proofs.Tryz
open Go.Fw Go.IntWalk Go.Plain
set_option maxRecDepth 100000
set_option maxHeartbeats 8000000
/-- The first index, or the first pair of indexes, that proves. -/
def goA (P : Nat → Bool) (r : Option (List Int)) : Nat → Nat → Option (List Int)
  | 0, _ => r
  | f + 1, i => if P i then some [(i : Int)] else goA P r f (i + 1)
def goC (Q : Nat → Bool) (i : Nat) (r : Option (List Int)) : Nat → Nat → Option (List Int)
  | 0, _ => r
  | f + 1, k => if Q k then some [(i : Int), (k : Int)] else goC Q i r f (k + 1)
def goB (Q : Nat → Nat → Bool) (n : Nat) : Nat → Nat → Option (List Int)
  | 0, _ => none
  | f + 1, i => goC (Q i) i (goB Q n f (i + 1)) (n - (i + 1)) (i + 1)
def wit (P : Nat → Bool) (Q : Nat → Nat → Bool) (n : Nat) : Option (List Int) := goA P (goB Q n n 0) n 0
theorem goA_at {P : Nat → Bool} {r : Option (List Int)} {n i : Nat} (h : i < n) : goA P r (n - i) i = if P i then some [(i : Int)] else goA P r (n - (i + 1)) (i + 1) := by
  rw [show n - i = (n - (i + 1)) + 1 by omega]; rfl
theorem goB_at {Q : Nat → Nat → Bool} {n i : Nat} (h : i < n) : goB Q n (n - i) i = goC (Q i) i (goB Q n (n - (i + 1)) (i + 1)) (n - (i + 1)) (i + 1) := by
  rw [show n - i = (n - (i + 1)) + 1 by omega]; rfl
theorem goC_at {Q : Nat → Bool} {i : Nat} {r : Option (List Int)} {n k : Nat} (h : k < n) : goC Q i r (n - k) k = if Q k then some [(i : Int), (k : Int)] else goC Q i r (n - (k + 1)) (k + 1) := by
  rw [show n - k = (n - (k + 1)) + 1 by omega]; rfl
theorem goA_end (P : Nat → Bool) (r : Option (List Int)) (n i : Nat) : goA P r (n - n) i = r := by rw [Nat.sub_self]; rfl
theorem goB_end (Q : Nat → Nat → Bool) (n i : Nat) : goB Q n (n - n) i = none := by rw [Nat.sub_self]; rfl
theorem goC_end (Q : Nat → Bool) (r : Option (List Int)) (n i k : Nat) : goC Q i r (n - n) k = r := by rw [Nat.sub_self]; rfl
/-- Whether the samples with some indexes permit no factor. -/
def exE (e : Int) (q : Sp) (la lb ix : List Int) : Bool := decide (empS (allS (sF q) e (PI la lb ix) (sF q)))
abbrev exP (e : Int) (q : Sp) (la lb : List Int) (i : Nat) : Bool := exE e q la lb [(i : Int)]
abbrev exQ (e : Int) (q : Sp) (la lb : List Int) (i k : Nat) : Bool := exE e q la lb [(i : Int), (k : Int)]
/-- The parameters of by, and whether its result is empty. -/
theorem byE {e : Int} {q : Sp} {la lb ix : List Int} (h : bdS (sF q)) (he : 0 ≤ e ∧ e ≤ 100) (hl : la.length = lb.length) (hx : ix.length ≤ 70) (ha : smpl la) (hb : smpl lb) (hi : ∀ w ∈ ix, 0 ≤ w ∧ w < la.length) :
    ∃ S : Iv, Sat cx.P cx.gl 44 [Pr (sF q) e la lb, L ix] (.one (true, iv S)) ∧ Sat cx.P cx.gl 40 [(true, iv S)] (.one (Bo (exE e q la lb ix))) :=
  ⟨_, by_sat h he hl hx ha hb hi, isEmpty_sat (allS_bd h he _ _ h (PI_mem ha hb hl hi))⟩
abbrev bPr (e : Int) (q : Sp) (la lb : List Int) : Option Blk := some (.box 88 [.st (J q.1), .st (J q.2.1), .st (J q.2.2.1), .st (J q.2.2.2), .st (J e), .st (.ints la), .st (.ints lb)])
def witO (o : Option (List Int)) : List SV := match o with | some l => [L l, I 0] | none => [L [], I 12]
def witP (z : Int) (o : Option (List Int)) : List SV := if z ≠ 0 then [L [], I z] else witO o
theorem witnessOf_sat (e : Int) (q : Sp) (ch : List Sp) (sa : Int) (la : List Int) (sb : Int) (lb : List Int) (hq : SpI q) (hch : ∀ s ∈ ch, SpI s) (hc : ch.length ≤ 4294967296) (hla : la.length ≤ maxLen) (hlb : lb.length ≤ maxLen) :
    Sat cx.P cx.gl 21 [Ru e q ch, Rc sa la, Rc sb lb] (.tup (witP (pairErr e q ch sa la sb lb) (wit (exP e q la lb) (exQ e q la lb) la.length))) := by
  have s1 := openPair_sat e q ch sa la sb lb hq hch hc hla hlb
  unfold witP
  by_cases h : pairErr e q ch sa la sb lb = 0
  · rw [h] at s1 ⊢
    rw [if_neg (by omega)]
    obtain ⟨he, hF, _, hn, hl, ha, hb⟩ := pair_facts h
    have b1 : ∀ i : Nat, i < la.length → ∃ S : Iv, Sat cx.P cx.gl 44 [Pr (sF q) e la lb, L [(i : Int)]] (.one (true, iv S)) ∧ Sat cx.P cx.gl 40 [(true, iv S)] (.one (Bo (exP e q la lb i))) := fun i hi =>
      byE (ix := [(i : Int)]) hF he hl (by simp) ha hb (fun w hw => by simp at hw; omega)
    have b2 : ∀ i k : Nat, i < la.length → k < la.length → ∃ S : Iv, Sat cx.P cx.gl 44 [Pr (sF q) e la lb, L [(i : Int), (k : Int)]] (.one (true, iv S)) ∧ Sat cx.P cx.gl 40 [(true, iv S)] (.one (Bo (exQ e q la lb i k))) := fun i k hi hk =>
      byE (ix := [(i : Int), (k : Int)]) hF he hl (by simp) ha hb (fun w hw => by simp at hw; omega)
    generalize exP e q la lb = P at *
    generalize exQ e q la lb = Q at *
    unfold wit
    refine Sat_of_awp (fn := f21) cx_ok (by kernel_rfl) (by kernel_rfl) rfl (by kernel_rfl) (Nat.le_of_ble_eq_true rfl) ?_
    repeat ((first | refine oP rfl ?_ | refine rP rfl (fun _ z => z) ?_ | (refine kO 1 rfl ?_; refine rG (fun _ z => z) ?_) | (refine kO 3 rfl ?_; first | refine rLdb rfl rfl rfl rfl rfl rfl rfl ?_ | refine rG (fun _ z => z) ?_) | (refine kO 4 rfl ?_; refine rG (fun _ z => z) ?_) | (refine kO 7 rfl ?_; refine rG (fun _ z => ⟨_, s1, z⟩) ?_) | (refine kO 6 rfl ?_; refine rLen rfl rfl rfl rfl rfl rfl ?_) | refine oN ?_ | refine aS ?_ | refine aR ?_ | refine aK ?_ | refine aB ?_ | refine aC rfl ?_ | refine bF ?_ | refine aL ?_); (try conv => whnf))
    refine loop_ind (ι := Nat) (fun i => i ≤ la.length ∧ goA P (goB Q la.length la.length 0) la.length 0 = goA P (goB Q la.length la.length 0) (la.length - i) i) (fun i => la.length - i) (fun i => ⟨[(8, pP 0), (25, vI la.length), (26, vI i)], [(0, bPr e q la lb)], 1⟩) 0 (canon_auto (by kernel_rfl)) ⟨Nat.zero_le _, rfl⟩ ?_
    rintro i ⟨hi, hg⟩
    rw [hg]
    by_cases hlt : i < la.length
    · rw [goA_at hlt] at hg ⊢
      obtain ⟨S, t1, t2⟩ := b1 i hlt
      generalize P i = p at *
      cases p
      · repeat ((first | refine oP rfl ?_ | refine rP rfl (fun _ z => z) ?_ | (refine kO 1 rfl ?_; first | refine rAdd rfl rfl rfl (by omega) ?_ | refine rG (fun _ z => z) ?_) | (refine kO 3 rfl ?_; refine rG (fun _ z => z) ?_) | (refine kO 7 rfl ?_; first | refine rG (fun _ z => ⟨_, t1, z⟩) ?_ | refine rG (fun _ z => ⟨_, t2, z⟩) ?_) | refine oN ?_ | refine aS ?_ | refine aR ?_ | refine aK ?_ | refine aB ?_ | refine aC rfl ?_ | refine bF ?_ | refine bPt (by omega) ?_); (try conv => whnf))
        exact ⟨i + 1, ⟨hlt, rfl⟩, by omega, canon_auto (by kernel_rfl)⟩
      · repeat ((first | refine oP rfl ?_ | refine rP rfl (fun _ z => z) ?_ | (refine kO 1 rfl ?_; refine rG (fun _ z => z) ?_) | (refine kO 3 rfl ?_; refine rG (fun _ z => z) ?_) | (refine kO 7 rfl ?_; first | refine rG (fun _ z => ⟨_, t1, z⟩) ?_ | refine rG (fun _ z => ⟨_, t2, z⟩) ?_) | refine oN ?_ | refine aS ?_ | refine aR ?_ | refine aK ?_ | refine aB ?_ | refine aT ?_ | refine aC rfl ?_ | refine bT ?_ | refine bPt (by omega) ?_); (try conv => whnf))
        (rfl)
    · obtain rfl : i = la.length := by omega
      rw [goA_end]
      clear hg b1
      repeat ((first | refine oP rfl ?_ | refine rP rfl (fun _ z => z) ?_ | (refine kO 1 rfl ?_; refine rG (fun _ z => z) ?_) | (refine kO 3 rfl ?_; refine rLdb rfl rfl rfl rfl rfl rfl rfl ?_) | (refine kO 6 rfl ?_; refine rLen rfl rfl rfl rfl rfl rfl ?_) | refine oN ?_ | refine aS ?_ | refine aR ?_ | refine aX ?_ | refine aB ?_ | refine aC rfl ?_ | refine bPf (by omega) ?_ | refine aL ?_); (try conv => whnf))
      refine loop_ind (ι := Nat) (fun i => i ≤ la.length ∧ goB Q la.length la.length 0 = goB Q la.length (la.length - i) i) (fun i => la.length - i) (fun i => ⟨[(8, pP 0), (39, vI la.length), (40, vI i)], [(0, bPr e q la lb)], 1⟩) 0 (canon_auto (by kernel_rfl)) ⟨Nat.zero_le _, rfl⟩ ?_
      rintro i ⟨hi, hg⟩
      rw [hg]
      by_cases hlt : i < la.length
      · rw [goB_at hlt] at hg ⊢
        repeat ((first | refine oP rfl ?_ | refine rP rfl (fun _ z => z) ?_ | (refine kO 1 rfl ?_; first | refine rAdd rfl rfl rfl (by omega) ?_ | refine rG (fun _ z => z) ?_) | refine oN ?_ | refine aS ?_ | refine aR ?_ | refine aK ?_ | refine aB ?_ | refine aC rfl ?_ | refine bPt (by omega) ?_ | refine aL ?_); (try conv => whnf))
        refine loop_ind (ι := Nat) (fun k => i + 1 ≤ k ∧ k ≤ la.length ∧ goB Q la.length la.length 0 = goC (Q i) i (goB Q la.length (la.length - (i + 1)) (i + 1)) (la.length - k) k) (fun k => la.length - k) (fun k => ⟨[(8, pP 0), (11, vI i), (12, vI k), (39, vI la.length), (40, vI i)], [(0, bPr e q la lb)], 1⟩) (i + 1) (canon_auto (by kernel_rfl)) ⟨Nat.le_refl _, hlt, hg⟩ ?_
        rintro k ⟨hk0, hk, hc'⟩
        rw [← hg, hc']
        by_cases hkt : k < la.length
        · rw [goC_at hkt] at hc' ⊢
          obtain ⟨S, t1, t2⟩ := b2 i k hlt hkt
          generalize Q i k = p at *
          cases p
          · repeat ((first | refine oP rfl ?_ | refine rP rfl (fun _ z => z) ?_ | (refine kO 1 rfl ?_; first | refine rAdd rfl rfl rfl (by omega) ?_ | refine rG (fun _ z => z) ?_) | (refine kO 3 rfl ?_; first | refine rLdb rfl rfl rfl rfl rfl rfl rfl ?_ | refine rG (fun _ z => z) ?_) | (refine kO 7 rfl ?_; first | refine rG (fun _ z => ⟨_, t1, z⟩) ?_ | refine rG (fun _ z => ⟨_, t2, z⟩) ?_) | (refine kO 6 rfl ?_; refine rLen rfl rfl rfl rfl rfl rfl ?_) | refine oN ?_ | refine aS ?_ | refine aR ?_ | refine aK ?_ | refine aB ?_ | refine aC rfl ?_ | refine bF ?_ | refine bPt (by omega) ?_); (try conv => whnf))
            exact ⟨k + 1, ⟨by omega, hkt, rfl⟩, by omega, canon_auto (by kernel_rfl)⟩
          · repeat ((first | refine oP rfl ?_ | refine rP rfl (fun _ z => z) ?_ | (refine kO 1 rfl ?_; refine rG (fun _ z => z) ?_) | (refine kO 3 rfl ?_; first | refine rLdb rfl rfl rfl rfl rfl rfl rfl ?_ | refine rG (fun _ z => z) ?_) | (refine kO 7 rfl ?_; first | refine rG (fun _ z => ⟨_, t1, z⟩) ?_ | refine rG (fun _ z => ⟨_, t2, z⟩) ?_) | (refine kO 6 rfl ?_; refine rLen rfl rfl rfl rfl rfl rfl ?_) | refine oN ?_ | refine aS ?_ | refine aR ?_ | refine aK ?_ | refine aB ?_ | refine aT ?_ | refine aC rfl ?_ | refine bT ?_ | refine bPt (by omega) ?_); (try conv => whnf))
            (rfl)
        · obtain rfl : k = la.length := by omega
          rw [goC_end] at hc' ⊢
          repeat ((first | refine oP rfl ?_ | refine rP rfl (fun _ z => z) ?_ | (refine kO 1 rfl ?_; first | refine rAdd rfl rfl rfl (by omega) ?_ | refine rG (fun _ z => z) ?_) | (refine kO 3 rfl ?_; refine rLdb rfl rfl rfl rfl rfl rfl rfl ?_) | (refine kO 6 rfl ?_; refine rLen rfl rfl rfl rfl rfl rfl ?_) | refine oN ?_ | refine aS ?_ | refine aR ?_ | refine aX ?_ | refine aC rfl ?_ | refine bPf (by omega) ?_); (try conv => whnf))
          exact ⟨i + 1, ⟨hlt, rfl⟩, by omega, canon_auto (by kernel_rfl)⟩
      · obtain rfl : i = la.length := by omega
        rw [goB_end]
        repeat ((first | refine oP rfl ?_ | refine rP rfl (fun _ z => z) ?_ | (refine kO 1 rfl ?_; refine rG (fun _ z => z) ?_) | refine oN ?_ | refine aS ?_ | refine aR ?_ | refine aX ?_ | refine aT ?_ | refine aC rfl ?_ | refine bPf (by omega) ?_); (try conv => whnf))
        (rfl)
  · rw [if_pos h]
    generalize pairErr e q ch sa la sb lb = z at *
    refine Sat_of_awp (fn := f21) cx_ok (by kernel_rfl) (by kernel_rfl) rfl (by kernel_rfl) (Nat.le_of_ble_eq_true rfl) ?_
    repeat ((first | refine oP rfl ?_ | refine rP rfl (fun _ z => z) ?_ | (refine kO 1 rfl ?_; refine rG (fun _ z => z) ?_) | (refine kO 3 rfl ?_; refine rG (fun _ z => z) ?_) | (refine kO 4 rfl ?_; refine rG (fun _ z => z) ?_) | (refine kO 7 rfl ?_; refine rG (fun _ z => ⟨_, s1, z⟩) ?_) | refine oN ?_ | refine aS ?_ | refine aR ?_ | refine aT ?_ | refine aC rfl ?_ | refine bPt (by omega) ?_); (try conv => whnf))
    (rfl)
end Go.Proofs.Tryz

namespace Go.Proofs.Tryz
open Go.Fw Go.IntWalk Go.Plain
set_option maxRecDepth 100000
set_option maxHeartbeats 8000000
def lastW (w : List Int) (i : Nat) : Int := if i = 0 then -1 else w.getD (i - 1) 0
/-- The first index that is not one of a witness. -/
def chk (n : Nat) (w : List Int) : Nat → Nat → Option (Int × Int)
  | 0, _ => none
  | f + 1, i => if 0 ≤ w.getD i 0 ∧ w.getD i 0 ≤ (n : Int) - 1 then (if w.getD i 0 > lastW w i then chk n w f (i + 1) else some (i, 9)) else some (i, 6)
theorem chk_at {n : Nat} {w : List Int} {m i : Nat} (h : i < m) : chk n w (m - i) i = if 0 ≤ w.getD i 0 ∧ w.getD i 0 ≤ (n : Int) - 1 then (if w.getD i 0 > lastW w i then chk n w (m - (i + 1)) (i + 1) else some (i, 9)) else some (i, 6) := by
  rw [show m - i = (m - (i + 1)) + 1 by omega]; rfl
theorem chk_end (n : Nat) (w : List Int) (m : Nat) : chk n w (m - m) m = none := by rw [Nat.sub_self]; rfl
def cwO (o : Option (Int × Int)) (b : Bool) : List SV := match o with | some p => [I p.1, I p.2] | none => [I 0, I (if b then 0 else 19)]
def cwR (z : Int) (o : Option (Int × Int)) (b : Bool) : List SV := if z ≠ 0 then [I 0, I z] else cwO o b
theorem first_two (x y z : Int) (h : (if x ≠ 0 then x else y) = z) : Sat cx.P cx.gl 45 [(false, [.ints [x, y]])] (.one (I z)) := by
  have := wFirst_fs [x, y] (Nat.le_of_ble_eq_true rfl)
  rwa [fs2, h] at this
theorem all_of_getD {w : List Int} {p : Int → Prop} (h : ∀ j < w.length, p (w.getD j 0)) : ∀ x ∈ w, p x := by
  intro x hx
  obtain ⟨j, hj, rfl⟩ := List.mem_iff_getElem.1 hx
  have := h j hj
  rwa [List.getD_eq_getElem?_getD, List.getElem?_eq_getElem hj] at this
theorem checkWitness_sat (e : Int) (q : Sp) (ch : List Sp) (sa : Int) (la : List Int) (sb : Int) (lb w : List Int) (hq : SpI q) (hch : ∀ s ∈ ch, SpI s) (hc : ch.length ≤ 4294967296) (hla : la.length ≤ maxLen) (hlb : lb.length ≤ maxLen) (hw : w.length ≤ 70) :
    Sat cx.P cx.gl 22 [Ru e q ch, Rp sa la sb lb, L w] (.tup (cwR (pairErr e q ch sa la sb lb) (chk la.length w w.length 0) (exE e q la lb w))) := by
  have s1 := openPair_sat e q ch sa la sb lb hq hch hc hla hlb
  unfold cwR
  by_cases h : pairErr e q ch sa la sb lb = 0
  · rw [h] at s1 ⊢
    rw [if_neg (by omega)]
    obtain ⟨he, hF, _, hn, hl, ha, hb⟩ := pair_facts h
    have b1 : (∀ x ∈ w, 0 ≤ x ∧ x < la.length) → ∃ S : Iv, Sat cx.P cx.gl 44 [Pr (sF q) e la lb, L w] (.one (true, iv S)) ∧ Sat cx.P cx.gl 40 [(true, iv S)] (.one (Bo (exE e q la lb w))) := fun hi => byE hF he hl hw ha hb hi
    generalize exE e q la lb w = B at *
    refine Sat_of_awp (fn := f22) cx_ok (by kernel_rfl) (by kernel_rfl) rfl (by kernel_rfl) (Nat.le_of_ble_eq_true rfl) ?_
    repeat ((first | refine oP rfl ?_ | refine rP rfl (fun _ z => z) ?_ | (refine kO 1 rfl ?_; refine rG (fun _ z => z) ?_) | (refine kO 3 rfl ?_; refine rG (fun _ z => z) ?_) | (refine kO 4 rfl ?_; refine rG (fun _ z => z) ?_) | (refine kO 7 rfl ?_; refine rG (fun _ z => ⟨_, s1, z⟩) ?_) | (refine kO 6 rfl ?_; refine rLen rfl rfl rfl rfl rfl rfl ?_) | refine oN ?_ | refine aS ?_ | refine aR ?_ | refine aK ?_ | refine aB ?_ | refine aC rfl ?_ | refine bF ?_ | refine aL ?_); (try conv => whnf))
    refine loop_ind (ι := Nat) (fun i => i ≤ w.length ∧ chk la.length w w.length 0 = chk la.length w (w.length - i) i ∧ ∀ j < i, 0 ≤ w.getD j 0 ∧ w.getD j 0 < la.length) (fun i => w.length - i)
      (fun i => ⟨[(2, vL w), (8, pP 0), (10, vI (lastW w i)), (26, vL w), (27, vI w.length), (28, vI i)], [(0, bPr e q la lb)], 1⟩) 0 (canon_auto (by kernel_rfl)) ⟨Nat.zero_le _, rfl, by intro j hj; omega⟩ ?_
    rintro i ⟨hi, hg, hj⟩
    rw [hg]
    by_cases hlt : i < w.length
    · rw [chk_at hlt] at hg ⊢
      have e1 : lastW w (i + 1) = w.getD i 0 := by simp [lastW]
      generalize lastW w i = la0 at *
      by_cases hin : 0 ≤ w.getD i 0 ∧ w.getD i 0 ≤ (la.length : Int) - 1
      · rw [if_pos hin] at hg ⊢
        by_cases ho : w.getD i 0 > la0
        · rw [if_pos ho] at hg ⊢
          repeat ((first | refine oP rfl ?_ | refine rP rfl (fun _ z => z) ?_ | (refine kO 1 rfl ?_; first | refine rAdd rfl rfl rfl (by omega) ?_ | refine rSub rfl rfl rfl (by omega) ?_ | refine rG (fun _ z => z) ?_) | (refine kO 3 rfl ?_; first | refine rLdr rfl rfl rfl rfl rfl ?_ | refine rLdb rfl rfl rfl rfl rfl rfl rfl ?_) | (refine kO 5 rfl ?_; refine rIdN rfl rfl rfl rfl rfl rfl rfl (by omega) ?_) | (refine kO 7 rfl ?_; first | refine rG (fun _ z => ⟨_, wWithin_p _ _ _, z⟩) ?_ | refine rG (fun _ z => ⟨_, wUnless_yes (show _ by omega) _, z⟩) ?_ | refine rG (fun _ z => ⟨_, first_two 0 0 0 (by decide), z⟩) ?_) | (refine kO 6 rfl ?_; refine rLen rfl rfl rfl rfl rfl rfl ?_) | refine oN ?_ | refine aS ?_ | refine aR ?_ | refine aK ?_ | refine aB ?_ | refine aC rfl ?_ | refine bF ?_ | refine bPt (by omega) ?_); (try conv => whnf))
          refine ⟨i + 1, ⟨hlt, rfl, ?_⟩, by omega, canon_auto (by rw [e1]; kernel_rfl)⟩
          intro j hj'
          by_cases e0 : j = i
          · subst e0; omega
          · exact hj j (by omega)
        · rw [if_neg ho]
          repeat ((first | refine oP rfl ?_ | refine rP rfl (fun _ z => z) ?_ | (refine kO 1 rfl ?_; first | refine rSub rfl rfl rfl (by omega) ?_ | refine rG (fun _ z => z) ?_) | (refine kO 3 rfl ?_; first | refine rLdr rfl rfl rfl rfl rfl ?_ | refine rLdb rfl rfl rfl rfl rfl rfl rfl ?_) | (refine kO 5 rfl ?_; refine rIdN rfl rfl rfl rfl rfl rfl rfl (by omega) ?_) | (refine kO 7 rfl ?_; first | refine rG (fun _ z => ⟨_, wWithin_p _ _ _, z⟩) ?_ | refine rG (fun _ z => ⟨_, wUnless_yes (show _ by omega) _, z⟩) ?_ | refine rG (fun _ z => ⟨_, wUnless_no (show ¬ _ by omega) _, z⟩) ?_ | refine rG (fun _ z => ⟨_, first_two 0 9 9 (by decide), z⟩) ?_) | (refine kO 6 rfl ?_; refine rLen rfl rfl rfl rfl rfl rfl ?_) | refine oN ?_ | refine aS ?_ | refine aR ?_ | refine aK ?_ | refine aB ?_ | refine aT ?_ | refine aC rfl ?_ | refine bT ?_ | refine bPt (by omega) ?_); (try conv => whnf))
          (rfl)
      · rw [if_neg hin]
        by_cases ho : w.getD i 0 > la0
        · repeat ((first | refine oP rfl ?_ | refine rP rfl (fun _ z => z) ?_ | (refine kO 1 rfl ?_; first | refine rSub rfl rfl rfl (by omega) ?_ | refine rG (fun _ z => z) ?_) | (refine kO 3 rfl ?_; first | refine rLdr rfl rfl rfl rfl rfl ?_ | refine rLdb rfl rfl rfl rfl rfl rfl rfl ?_) | (refine kO 5 rfl ?_; refine rIdN rfl rfl rfl rfl rfl rfl rfl (by omega) ?_) | (refine kO 7 rfl ?_; first | refine rG (fun _ z => ⟨_, wWithin_p _ _ _, z⟩) ?_ | refine rG (fun _ z => ⟨_, wUnless_no (show ¬ _ by omega) _, z⟩) ?_ | refine rG (fun _ z => ⟨_, wUnless_yes (show _ by omega) _, z⟩) ?_ | refine rG (fun _ z => ⟨_, first_two 6 0 6 (by decide), z⟩) ?_) | (refine kO 6 rfl ?_; refine rLen rfl rfl rfl rfl rfl rfl ?_) | refine oN ?_ | refine aS ?_ | refine aR ?_ | refine aK ?_ | refine aB ?_ | refine aT ?_ | refine aC rfl ?_ | refine bT ?_ | refine bPt (by omega) ?_); (try conv => whnf))
          (rfl)
        · repeat ((first | refine oP rfl ?_ | refine rP rfl (fun _ z => z) ?_ | (refine kO 1 rfl ?_; first | refine rSub rfl rfl rfl (by omega) ?_ | refine rG (fun _ z => z) ?_) | (refine kO 3 rfl ?_; first | refine rLdr rfl rfl rfl rfl rfl ?_ | refine rLdb rfl rfl rfl rfl rfl rfl rfl ?_) | (refine kO 5 rfl ?_; refine rIdN rfl rfl rfl rfl rfl rfl rfl (by omega) ?_) | (refine kO 7 rfl ?_; first | refine rG (fun _ z => ⟨_, wWithin_p _ _ _, z⟩) ?_ | refine rG (fun _ z => ⟨_, wUnless_no (show ¬ _ by omega) _, z⟩) ?_ | refine rG (fun _ z => ⟨_, first_two 6 9 6 (by decide), z⟩) ?_) | (refine kO 6 rfl ?_; refine rLen rfl rfl rfl rfl rfl rfl ?_) | refine oN ?_ | refine aS ?_ | refine aR ?_ | refine aK ?_ | refine aB ?_ | refine aT ?_ | refine aC rfl ?_ | refine bT ?_ | refine bPt (by omega) ?_); (try conv => whnf))
          (rfl)
    · obtain rfl : i = w.length := by omega
      rw [chk_end]
      obtain ⟨S, t1, t2⟩ := b1 (all_of_getD hj)
      clear hg hj b1
      repeat ((first | refine oP rfl ?_ | refine rP rfl (fun _ z => z) ?_ | (refine kO 1 rfl ?_; refine rG (fun _ z => z) ?_) | (refine kO 3 rfl ?_; refine rG (fun _ z => z) ?_) | (refine kO 7 rfl ?_; first | refine rG (fun _ z => ⟨_, t1, z⟩) ?_ | refine rG (fun _ z => ⟨_, t2, z⟩) ?_ | refine rG (fun _ z => ⟨_, wUnless_sat _ _, z⟩) ?_) | refine oN ?_ | refine aS ?_ | refine aR ?_ | refine aX ?_ | refine aT ?_ | refine aC rfl ?_ | refine bPf (by omega) ?_); (try conv => whnf))
      (rfl)
  · rw [if_pos h]
    generalize pairErr e q ch sa la sb lb = z at *
    refine Sat_of_awp (fn := f22) cx_ok (by kernel_rfl) (by kernel_rfl) rfl (by kernel_rfl) (Nat.le_of_ble_eq_true rfl) ?_
    repeat ((first | refine oP rfl ?_ | refine rP rfl (fun _ z => z) ?_ | (refine kO 1 rfl ?_; refine rG (fun _ z => z) ?_) | (refine kO 3 rfl ?_; refine rG (fun _ z => z) ?_) | (refine kO 4 rfl ?_; refine rG (fun _ z => z) ?_) | (refine kO 7 rfl ?_; refine rG (fun _ z => ⟨_, s1, z⟩) ?_) | refine oN ?_ | refine aS ?_ | refine aR ?_ | refine aT ?_ | refine aC rfl ?_ | refine bPt (by omega) ?_); (try conv => whnf))
    (rfl)
end Go.Proofs.Tryz

namespace Go.Proofs.Tryz
open Go.Fw Go.IntWalk Go.Plain
set_option maxRecDepth 100000
set_option maxHeartbeats 8000000
theorem getD_all {w : List Int} {p : Int → Prop} (h : ∀ x ∈ w, p x) {j : Nat} (hj : j < w.length) : p (w.getD j 0) := h _ (getD_mem hj)
end Go.Proofs.Tryz

namespace Go.Proofs.Tryz
open Go.Fw Go.IntWalk Go.Plain
set_option maxRecDepth 100000
set_option maxHeartbeats 8000000
/-- What lies in s and in each span that some samples permit lies in what they permit together. -/
theorem within_all {F : Iv} {e : Int} {o : Iv} (ho : posS o) (hF : posS F) : ∀ (l : List (Int × Int)) (s : Iv), posS s → within o s → (∀ p ∈ l, within o (atS F e p.1 p.2)) → within o (allS F e l s)
  | [], _, _, h, _ => h
  | p :: l, s, hs, h, hl => by
    have hp := hl p (List.mem_cons_self ..)
    refine within_all ho hF l _ (and_pos hs (at_pos hF)) ?_ fun p hp => hl p (List.mem_cons_of_mem _ hp)
    unfold within andS mxQ mnQ at *
    refine ⟨?_, ?_⟩
    · dsimp only; split <;> simp_all
    · dsimp only; split <;> simp_all
theorem all_within_at {F : Iv} {e : Int} (hF : posS F) : ∀ (l : List (Int × Int)) (s : Iv), posS s → ∀ p ∈ l, within (allS F e l s) (atS F e p.1 p.2)
  | p :: l, s, hs, x, hx => by
    have hp : posS (atS F e p.1 p.2) := at_pos hF
    have ha := and_pos hs hp
    rcases List.mem_cons.1 hx with rfl | hx
    · obtain ⟨w, hw⟩ := all_within (e := e) hF l ha
      exact within_trans hw ha hp w (and_within_r _ _)
    · exact all_within_at hF l _ ha x hx
theorem exE_sub {e : Int} {q : Sp} {la lb ix jx : List Int} (h : bdS (sF q)) (hs : ∀ w ∈ ix, w ∈ jx) (he : exE e q la lb jx = false) : exE e q la lb ix = false := by
  unfold exE at *
  have hF := bdS_pos h
  have h1 := of_decide_eq_false he
  refine decide_eq_false fun h2 => h1 ?_
  obtain ⟨w1, p1⟩ := all_within (e := e) hF (PI la lb jx) hF
  obtain ⟨_, p2⟩ := all_within (e := e) hF (PI la lb ix) hF
  refine within_emp p1 p2 (within_all p1 hF _ _ hF w1 ?_) h2
  intro p hp
  obtain ⟨w, hw, rfl⟩ := List.mem_map.1 hp
  exact all_within_at hF _ _ hF _ (List.mem_map.2 ⟨w, hs w hw, rfl⟩)
theorem goA_none {P : Nat → Bool} {r : Option (List Int)} {n : Nat} (h : ∀ i < n, P i = false) : ∀ f i, f + i = n → goA P r f i = r
  | 0, _, _ => rfl
  | f + 1, i, hf => by
    unfold goA
    rw [h i (by omega), if_neg (by decide)]
    exact goA_none h f (i + 1) (by omega)
theorem goC_none {Q : Nat → Bool} {r : Option (List Int)} {i n : Nat} (h : ∀ k < n, Q k = false) : ∀ f k, f + k = n → goC Q i r f k = r
  | 0, _, _ => rfl
  | f + 1, k, hf => by
    unfold goC
    rw [h k (by omega), if_neg (by decide)]
    exact goC_none h f (k + 1) (by omega)
theorem goB_none {Q : Nat → Nat → Bool} {n : Nat} (h : ∀ i < n, ∀ k < n, Q i k = false) : ∀ f i, f + i = n → goB Q n f i = none
  | 0, _, _ => rfl
  | f + 1, i, hf => by
    unfold goB
    rw [goC_none (h i (by omega)) _ _ (by omega)]
    exact goB_none h f (i + 1) (by omega)
theorem wit_none {P : Nat → Bool} {Q : Nat → Nat → Bool} {n : Nat} (h : ∀ i < n, P i = false) (k : ∀ i < n, ∀ j < n, Q i j = false) : wit P Q n = none := by
  unfold wit
  rw [goA_none h n 0 rfl, goB_none k n 0 rfl]
theorem rng_mem {n i : Nat} (h : i < n) : (i : Int) ∈ rng n := List.mem_map.2 ⟨i, List.mem_range.2 h, rfl⟩
/-- Factors of all samples: no witness. -/
theorem wit_all {e : Int} {q : Sp} {la lb : List Int} (h : bdS (sF q)) (he : exE e q la lb (rng la.length) = false) : wit (exP e q la lb) (exQ e q la lb) la.length = none := by
  refine wit_none (fun i hi => exE_sub h ?_ he) (fun i hi j hj => exE_sub h ?_ he)
  · intro w hw; rw [List.mem_singleton] at hw; subst hw; exact rng_mem hi
  · intro w hw
    rcases List.mem_cons.1 hw with rfl | hw
    · exact rng_mem hi
    · rw [List.mem_singleton] at hw; subst hw; exact rng_mem hj
def witB (o : Option (List Int)) : List SV := match o with | some l => [L l, Bo true] | none => [L [], Bo false]
end Go.Proofs.Tryz

namespace Go.Proofs.Tryz
open Go.Fw Go.IntWalk Go.Plain
set_option maxRecDepth 100000
set_option maxHeartbeats 8000000
theorem emp_sub {F : Iv} {e : Int} {l : List (Int × Int)} {a b : Qn} (hF : posS F) (ha : posQ a) (hb : posQ b) (h1 : a = F.1 ∨ ∃ p ∈ l, a = (atS F e p.1 p.2).1) (h2 : b = F.2 ∨ ∃ p ∈ l, b = (atS F e p.1 p.2).2) (h : ltQ b a) : empS (allS F e l F) := by
  obtain ⟨w, hp⟩ := all_within (e := e) hF l hF
  refine emp_of hp ha hb ?_ ?_ h
  · rcases h1 with rfl | ⟨p, hp', rfl⟩
    · exact w.1
    · exact (all_within_at hF l F hF p hp').1
  · rcases h2 with rfl | ⟨p, hp', rfl⟩
    · exact w.2
    · exact (all_within_at hF l F hF p hp').2
theorem PI_rng {la lb : List Int} {n : Nat} {p : Int × Int} (h : p ∈ PI la lb (rng n)) : ∃ i : Nat, i < n ∧ p = (la.getD (i : Int).toNat 0, lb.getD (i : Int).toNat 0) := by
  obtain ⟨w, hw, rfl⟩ := List.mem_map.1 h
  obtain ⟨i, hi, rfl⟩ := List.mem_map.1 hw
  exact ⟨i, List.mem_range.1 hi, rfl⟩
theorem PI_at {la lb ix : List Int} {i : Nat} (h : (i : Int) ∈ ix) : (la.getD (i : Int).toNat 0, lb.getD (i : Int).toNat 0) ∈ PI la lb ix := List.mem_map.2 ⟨_, h, rfl⟩
/-- Of intervals without a common number there are two without one. -/
theorem helly {e : Int} {q : Sp} {la lb : List Int} {n : Nat} (h : bdS (sF q)) (hne : ¬ empS (sF q)) (hE : exE e q la lb (rng n) = true) : (∃ i < n, exP e q la lb i = true) ∨ ∃ i k, i < k ∧ k < n ∧ exQ e q la lb i k = true := by
  have hF := bdS_pos h
  have hE := of_decide_eq_true hE
  unfold exP exQ exE
  obtain ⟨_, hp⟩ := all_within (e := e) hF (PI la lb (rng n)) hF
  have lo := allS_lo (F := sF q) (e := e) (PI la lb (rng n)) (sF q)
  have hi := allS_hi (F := sF q) (e := e) (PI la lb (rng n)) (sF q)
  unfold empS at hE
  rcases lo with l1 | ⟨p, hp1, l1⟩
  · rcases hi with l2 | ⟨r, hr, l2⟩
    · rw [l1, l2] at hE; exact absurd hE hne
    · obtain ⟨k, hk, rfl⟩ := PI_rng hr
      exact .inl ⟨k, hk, decide_eq_true (emp_sub hF hp.1 hp.2 (.inl l1) (.inr ⟨_, PI_at (List.mem_singleton.2 rfl), l2⟩) hE)⟩
  · obtain ⟨i, hi', rfl⟩ := PI_rng hp1
    rcases hi with l2 | ⟨r, hr, l2⟩
    · exact .inl ⟨i, hi', decide_eq_true (emp_sub hF hp.1 hp.2 (.inr ⟨_, PI_at (List.mem_singleton.2 rfl), l1⟩) (.inl l2) hE)⟩
    · obtain ⟨k, hk, rfl⟩ := PI_rng hr
      rcases Nat.lt_trichotomy i k with hlt | rfl | hlt
      · exact .inr ⟨i, k, hlt, hk, decide_eq_true (emp_sub hF hp.1 hp.2 (.inr ⟨_, PI_at (List.mem_cons_self ..), l1⟩) (.inr ⟨_, PI_at (List.mem_cons_of_mem _ (List.mem_singleton.2 rfl)), l2⟩) hE)⟩
      · exact .inl ⟨i, hk, decide_eq_true (emp_sub hF hp.1 hp.2 (.inr ⟨_, PI_at (List.mem_singleton.2 rfl), l1⟩) (.inr ⟨_, PI_at (List.mem_singleton.2 rfl), l2⟩) hE)⟩
      · exact .inr ⟨k, i, hlt, hi', decide_eq_true (emp_sub hF hp.1 hp.2 (.inr ⟨_, PI_at (List.mem_cons_of_mem _ (List.mem_singleton.2 rfl)), l1⟩) (.inr ⟨_, PI_at (List.mem_cons_self ..), l2⟩) hE)⟩
theorem goC_spec {Q : Nat → Bool} {i n : Nat} {r : Option (List Int)} : ∀ f k, f + k = n → (∃ j, k ≤ j ∧ j < n ∧ Q j = true ∧ goC Q i r f k = some [(i : Int), (j : Int)]) ∨ ((∀ j, k ≤ j → j < n → Q j = false) ∧ goC Q i r f k = r)
  | 0, k, h => .inr ⟨fun j h1 h2 => by omega, rfl⟩
  | f + 1, k, h => by
    unfold goC
    cases hQ : Q k
    · rw [if_neg (by decide)]
      rcases goC_spec (Q := Q) (i := i) (n := n) (r := r) f (k + 1) (by omega) with ⟨j, h1, h2, h3, h4⟩ | ⟨h1, h2⟩
      · exact .inl ⟨j, by omega, h2, h3, h4⟩
      · refine .inr ⟨fun j h3 h4 => ?_, h2⟩
        by_cases e : j = k
        · rw [e]; exact hQ
        · exact h1 j (by omega) h4
    · rw [if_pos rfl]
      exact .inl ⟨k, Nat.le_refl _, by omega, hQ, rfl⟩
theorem goB_spec {Q : Nat → Nat → Bool} {n : Nat} : ∀ f i, f + i = n → (∃ a b, a < b ∧ b < n ∧ Q a b = true ∧ goB Q n f i = some [(a : Int), (b : Int)]) ∨ ((∀ a b, i ≤ a → a < b → b < n → Q a b = false) ∧ goB Q n f i = none)
  | 0, i, h => .inr ⟨fun a b h1 h2 h3 => by omega, rfl⟩
  | f + 1, i, h => by
    unfold goB
    rcases goC_spec (Q := Q i) (i := i) (n := n) (r := goB Q n f (i + 1)) (n - (i + 1)) (i + 1) (by omega) with ⟨j, h1, h2, h3, h4⟩ | ⟨h1, h2⟩
    · exact .inl ⟨i, j, by omega, h2, h3, h4⟩
    · rw [h2]
      rcases goB_spec (Q := Q) (n := n) f (i + 1) (by omega) with h | ⟨h3, h4⟩
      · exact .inl h
      · refine .inr ⟨fun a b g1 g2 g3 => ?_, h4⟩
        by_cases e : a = i
        · subst e; exact h1 b (by omega) g3
        · exact h3 a b (by omega) g2 g3
theorem goA_spec {P : Nat → Bool} {n : Nat} {r : Option (List Int)} : ∀ f i, f + i = n → (∃ j, j < n ∧ P j = true ∧ goA P r f i = some [(j : Int)]) ∨ ((∀ j, i ≤ j → j < n → P j = false) ∧ goA P r f i = r)
  | 0, i, h => .inr ⟨fun j h1 h2 => by omega, rfl⟩
  | f + 1, i, h => by
    unfold goA
    cases hP : P i
    · rw [if_neg (by decide)]
      rcases goA_spec (P := P) (n := n) (r := r) f (i + 1) (by omega) with h | ⟨h1, h2⟩
      · exact .inl h
      · refine .inr ⟨fun j h3 h4 => ?_, h2⟩
        by_cases e : j = i
        · rw [e]; exact hP
        · exact h1 j (by omega) h4
    · rw [if_pos rfl]
      exact .inl ⟨i, by omega, hP, rfl⟩
/-- If no factor is common, a witness is found and proves. -/
theorem wit_some {e : Int} {q : Sp} {la lb : List Int} (h : bdS (sF q)) (hne : ¬ empS (sF q)) (hE : exE e q la lb (rng la.length) = true) : ∃ l, wit (exP e q la lb) (exQ e q la lb) la.length = some l ∧ chk la.length l l.length 0 = none ∧ exE e q la lb l = true ∧ (l.length = 1 ∨ l.length = 2) := by
  have hl := helly h hne hE
  unfold wit
  rcases goA_spec (P := exP e q la lb) (n := la.length) (r := goB (exQ e q la lb) la.length la.length 0) la.length 0 rfl with ⟨j, h1, h2, h3⟩ | ⟨h1, h2⟩
  · refine ⟨_, h3, ?_, h2, .inl rfl⟩
    show chk _ _ 1 0 = none
    unfold chk
    rw [if_pos ⟨by show (0 : Int) ≤ (j : Int); omega, by show (j : Int) ≤ _; omega⟩, if_pos (by show (j : Int) > -1; omega)]
    rfl
  · rw [h2]
    rcases goB_spec (Q := exQ e q la lb) (n := la.length) la.length 0 rfl with ⟨a, b, g1, g2, g3, g4⟩ | ⟨g1, g2⟩
    · refine ⟨_, g4, ?_, g3, .inr rfl⟩
      show chk _ _ 2 0 = none
      unfold chk
      rw [if_pos ⟨by show (0 : Int) ≤ (a : Int); omega, by show (a : Int) ≤ _; omega⟩, if_pos (by show (a : Int) > -1; omega)]
      unfold chk
      rw [if_pos ⟨by show (0 : Int) ≤ (b : Int); omega, by show (b : Int) ≤ _; omega⟩, if_pos (by show (b : Int) > (a : Int); omega)]
      rfl
    · exfalso
      rcases hl with ⟨i, hi, h⟩ | ⟨i, k, hik, hk, h⟩
      · rw [h1 i (Nat.zero_le _) hi] at h; cases h
      · rw [g1 i k (Nat.zero_le _) hik hk] at h; cases h
end Go.Proofs.Tryz

namespace Go.Proofs.Tryz
open Go.Fw Go.IntWalk Go.Plain
set_option maxRecDepth 100000
set_option maxHeartbeats 16000000
theorem copyRecordOwn_sat (st : Int) (l : List Int) (hl : l.length ≤ 4294967296) : Sat cx.P cx.gl 10 [Rc st l] (.mix false [(true, [some (J st), none])] 1 (.ints l)) := by
  refine Sat_of_mix (fn := f10) cx_ok (by kernel_rfl) (by kernel_rfl) rfl (by kernel_rfl) (Nat.le_of_ble_eq_true rfl) ?_
  repeat ((first | refine oP rfl ?_ | refine rP rfl (fun _ z => z) ?_ | (refine kO 1 rfl ?_; first | refine rAdd rfl rfl rfl (by omega) ?_ | refine rSub rfl rfl rfl (by omega) ?_ | refine rMul rfl rfl rfl (by omega) ?_ | refine rQuo rfl rfl rfl (by omega) ?_ | refine rRem rfl rfl rfl (by omega) ?_ | refine rQuo' rfl rfl rfl (by omega) ?_ | refine rRem' rfl rfl rfl (by omega) ?_ | refine rG (fun _ z => z) ?_) | (refine kO 2 rfl ?_; first | refine rNeg rfl rfl (by omega) ?_ | refine rG (fun _ z => z) ?_) | (refine kO 3 rfl ?_; first | refine rLdr rfl rfl rfl rfl rfl ?_ | refine rLdb rfl rfl rfl rfl rfl rfl rfl ?_ | refine rLdi rfl rfl rfl rfl rfl rfl (by first | omega | decide | exact Nat.le_of_ble_eq_true rfl | (dsimp only [SC.len]; omega) | (simp; done) | (simp; omega) | omega) ?_ | refine rG (fun _ z => z) ?_ | refine rG (fun _ z => ⟨_, rfl, z⟩) ?_) | (refine kO 4 rfl ?_; first | refine rSti rfl rfl rfl rfl rfl rfl (by first | omega | decide | exact Nat.le_of_ble_eq_true rfl | (dsimp only [SC.len]; omega) | (simp; done) | (simp; omega) | omega) ?_ | refine rG (fun _ z => z) ?_) | (refine kO 5 rfl ?_; first | refine rIdN rfl rfl rfl rfl rfl rfl rfl (by first | omega | decide | exact Nat.le_of_ble_eq_true rfl | (dsimp only [SC.len]; omega) | (simp; done) | (simp; omega) | omega) ?_ | refine rIdx rfl rfl rfl rfl rfl rfl rfl (by first | omega | decide | exact Nat.le_of_ble_eq_true rfl | (dsimp only [SC.len]; omega) | (simp; done) | (simp; omega) | omega) ?_ | refine rIdoN rfl rfl rfl rfl rfl rfl rfl rfl (by first | omega | decide | exact Nat.le_of_ble_eq_true rfl | (dsimp only [SC.len]; omega) | (simp; done) | (simp; omega) | omega) ?_ | refine rIdo rfl rfl rfl rfl rfl rfl rfl rfl (by first | omega | decide | exact Nat.le_of_ble_eq_true rfl | (dsimp only [SC.len]; omega) | (simp; done) | (simp; omega) | omega) ?_ | refine rIdvN rfl rfl rfl rfl rfl rfl (by first | assumption | rfl) rfl ?_) | (refine kO 7 rfl ?_; first | refine rG (fun _ z => ⟨_, copyInts_sat l hl, z⟩) ?_) | (refine kO 6 rfl ?_; first | refine rLen rfl rfl rfl rfl rfl rfl ?_ | refine rLenv rfl rfl rfl rfl rfl rfl ?_ | refine rLeno rfl rfl rfl rfl rfl rfl rfl ?_ | refine rLenov rfl rfl rfl rfl rfl rfl rfl ?_ | refine rG (fun _ z => z) ?_) | (refine kO 8 rfl ?_; first | refine rSlH rfl rfl rfl rfl rfl rfl rfl (by omega) ?_ | refine rSlL rfl rfl rfl rfl rfl rfl rfl (by omega) ?_ | refine rG (fun _ z => z) ?_) | refine oN ?_ | refine aS ?_ | refine aR ?_ | refine aK ?_ | refine aX ?_ | refine aB ?_ | refine aT ?_ | refine aC rfl ?_ | refine bT ?_ | refine bF ?_ | refine bPt (by omega) ?_ | refine bPf (by omega) ?_ | refine aL ?_ | refine aE ?_ | refine oY rfl rfl rfl ?_ | refine oZ rfl rfl rfl ?_ | refine oO rfl rfl rfl ?_ | refine oIt rfl rfl rfl (by omega) ?_ | refine oIf rfl rfl rfl (by omega) ?_ | refine oUt rfl rfl rfl (by omega) ?_ | refine oUf rfl rfl rfl (by omega) ?_ | refine dI (by kernel_rfl) ?_ | refine rG (fun _ z => ⟨(by (first | omega | decide | rfl | exact lnS (by omega) | exact lnN (by decide) | exact lnN (by omega) | exact lnC (by omega) | exact lvS (by omega) | exact lvN (by decide) | exact lvC (by omega) | exact uvS rfl | exact uvN rfl | ((try unfold SC.len); (try unfold SC.uni); (try unfold LIM); (try simp); (try omega); done) | omega)), z⟩) ?_ | refine rG (fun _ z => ⟨(by (first | omega | decide | rfl | exact lnS (by omega) | exact lnN (by decide) | exact lnN (by omega) | exact lnC (by omega) | exact lvS (by omega) | exact lvN (by decide) | exact lvC (by omega) | exact uvS rfl | exact uvN rfl | ((try unfold SC.len); (try unfold SC.uni); (try unfold LIM); (try simp); (try omega); done) | omega)), (by (first | omega | decide | rfl | exact lnS (by omega) | exact lnN (by decide) | exact lnN (by omega) | exact lnC (by omega) | exact lvS (by omega) | exact lvN (by decide) | exact lvC (by omega) | exact uvS rfl | exact uvN rfl | ((try unfold SC.len); (try unfold SC.uni); (try unfold LIM); (try simp); (try omega); done) | omega)), z⟩) ?_); (try conv => whnf))
  (first | done | rfl)
/-- The first numbers replaced. -/
def upT (f : Nat → Int) (l : List Int) (i : Nat) : List Int := (List.range i).map f ++ l.drop i
theorem upT_zero (f : Nat → Int) (l : List Int) : upT f l 0 = l := by simp [upT]
theorem upT_len {f : Nat → Int} {l : List Int} {i : Nat} (h : i ≤ l.length) : (upT f l i).length = l.length := by simp [upT]; omega
theorem upT_set {f : Nat → Int} {l : List Int} {i : Nat} (h : i < l.length) : (upT f l i).set i (f i) = upT f l (i + 1) := by
  unfold upT
  have e : (l.drop i).set 0 (f i) = f i :: l.drop (i + 1) := by rw [List.drop_eq_getElem_cons h]; rfl
  rw [List.range_succ, List.map_append, List.set_append_right _ _ (by simp)]
  simp [e]
theorem upT_all (f : Nat → Int) (l : List Int) : upT f l l.length = (List.range l.length).map f := by simp [upT]
theorem range_getD {f : Nat → Int} {n j : Nat} (h : j < n) : ((List.range n).map f).getD j 0 = f j := by simp [List.getD_eq_getElem?_getD, h]
def chA (l b : List Int) (e k : Int) (i : Nat) : Int := k * l.getD i 0 - e + b.getD i 0 % (2 * e + 1)
theorem chA_in {l b : List Int} {e k : Int} {i : Nat} (he : 0 ≤ e) : k * l.getD i 0 - e ≤ chA l b e k i ∧ chA l b e k i ≤ k * l.getD i 0 + e := by
  have h1 := Int.emod_nonneg (b.getD i 0) (show 2 * e + 1 ≠ 0 by omega)
  have h2 := Int.emod_lt_of_pos (b.getD i 0) (show 0 < 2 * e + 1 by omega)
  unfold chA; omega
/-- A whole factor permits all samples that were made with it. -/
theorem made_fits {l b0 b1 : List Int} {e k : Int} {q : Sp} (he : 0 ≤ e) (hk : 0 ≤ k) (hF : inS (k, 1) (sF q)) (h : bdS (sF q)) :
    exE e q ((List.range l.length).map (chA l b0 e 1)) ((List.range l.length).map (chA l b1 e k)) (rng l.length) = false := by
  unfold exE
  refine decide_eq_false (inS_ne (by show (0 : Int) < 1; decide) (all_within (e := e) (bdS_pos h) _ (bdS_pos h)).2 (inS_all hF _ _ hF fun p hp => ?_))
  obtain ⟨i, hi, rfl⟩ := PI_rng hp
  simp only [Int.toNat_natCast]
  rw [range_getD hi, range_getD hi]
  have h1 := chA_in (l := l) (b := b0) (e := e) (k := 1) (i := i) he
  have h2 := chA_in (l := l) (b := b1) (e := e) (k := k) (i := i) he
  rw [Int.one_mul] at h1
  have m1 : k * (chA l b0 e 1 i - e) ≤ k * l.getD i 0 := Int.mul_le_mul_of_nonneg_left (by omega) hk
  have m2 : k * (-chA l b0 e 1 i - e) ≤ k * -l.getD i 0 := Int.mul_le_mul_of_nonneg_left (by omega) hk
  rw [Int.mul_neg] at m2
  exact ⟨by omega, by omega⟩
end Go.Proofs.Tryz

namespace Go.Proofs.Tryz
open Go.Fw Go.IntWalk Go.Plain
set_option maxRecDepth 100000
set_option maxHeartbeats 16000000
theorem ceil_facts {n d : Int} (hn : 1 ≤ n ∧ n ≤ 1000) (hd : 1 ≤ d ∧ d ≤ 1000) : (1 ≤ -(-n / d) ∧ -(-n / d) ≤ 1000) ∧ n ≤ -(-n / d) * d := by
  have h1 : -n / d * d ≤ -n := Int.ediv_mul_le _ (by omega)
  have h2 : -n < (-n / d + 1) * d := Int.lt_ediv_add_one_mul_self _ (by omega)
  rw [Int.add_mul, Int.one_mul] at h2
  generalize -n / d = t at *
  have h3 : t * d ≤ -1 := by omega
  have h4 : t ≤ -1 := by
    rcases Int.lt_or_le t 0 with h | h
    · omega
    · have := Int.mul_nonneg h (show 0 ≤ d by omega); omega
  have h5 : -1000 ≤ t := by
    rcases Int.lt_or_le t (-1000) with h | h
    · exfalso
      have : (t + 1) * d ≤ -1000 * d := Int.mul_le_mul_of_nonneg_right (by omega) (by omega)
      rw [Int.add_mul, Int.one_mul] at this
      omega
    · exact h
  exact ⟨by omega, by rw [Int.neg_mul]; omega⟩
abbrev bRo (st : Int) (id : Nat) : Option Blk := some (.box 31 [.st (J st), .own id])
theorem dif_not {e : Int} {s : Iv} (h : ¬ empS s) : ∃ n : Int, (n = 0 ∨ n = 1) ∧ difR 0 e s = [I n, I 0] := by
  unfold difR
  rw [if_neg (by omega), if_neg h]
  split
  · exact ⟨0, .inl rfl, rfl⟩
  · exact ⟨1, .inr rfl, rfl⟩
theorem dif_emp {e : Int} {s : Iv} (h : empS s) : difR 0 e s = [I 2, I 0] := by
  unfold difR
  rw [if_neg (by omega), if_pos h]
theorem pair_of {e : Int} {q : Sp} {ch : List Sp} {st : Int} {la lb : List Int} (h1 : rulesErr e q ch = 0) (h2 : recErr st la = 0) (h3 : recErr st lb = 0) (h4 : la.length = lb.length) : pairErr e q ch st la st lb = 0 := by
  unfold pairErr
  rw [if_neg (by omega), if_neg (by omega), if_neg (by omega), if_pos ⟨rfl, by omega⟩]
end Go.Proofs.Tryz

namespace Go.Proofs.Tryz
open Go.Fw Go.IntWalk Go.Plain
set_option maxRecDepth 100000
set_option maxHeartbeats 8000000
theorem low_ltQ {n d m k : Int} (hd : 0 < d) (hk : 0 < k) (h : n * k < m * d) : ltQ (lowQ n d) (lowQ m k) := by
  have e1 := low_num_eq n d
  have e2 := low_den_eq n d
  have e3 := low_num_eq m k
  have e4 := low_den_eq m k
  have g1 : (0 : Int) < Int.gcd n d := by have := Int.gcd_pos_of_ne_zero_right n (show d ≠ 0 by omega); omega
  have g2 : (0 : Int) < Int.gcd m k := by have := Int.gcd_pos_of_ne_zero_right m (show k ≠ 0 by omega); omega
  show lowNum n d * lowDen m k < lowNum m k * lowDen n d
  generalize (Int.gcd n d : Int) = g at *
  generalize (Int.gcd m k : Int) = g' at *
  generalize lowNum n d = p at *
  generalize lowDen n d = q at *
  generalize lowNum m k = r at *
  generalize lowDen m k = t at *
  subst e1 e2 e3 e4
  refine Int.lt_of_mul_lt_mul_left (a := g * g') ?_ (Int.le_of_lt (Int.mul_pos g1 g2))
  have a1 : g * g' * (p * t) = g * p * (g' * t) := by
    rw [Int.mul_assoc, Int.mul_assoc, Int.mul_left_comm g' p t]
  have a2 : g * g' * (r * q) = g' * r * (g * q) := by
    rw [Int.mul_comm g g', Int.mul_assoc, Int.mul_assoc, Int.mul_left_comm g r q]
  rw [a1, a2]; exact h
/-- A whole factor permits the multiples. -/
theorem fits_mul {l : List Int} {e T : Int} {q : Sp} (he : 0 ≤ e) (hT : 1 ≤ T) (hF : inS (T, 1) (sF q)) (h : bdS (sF q)) : exE e q l (l.map (T * ·)) (rng l.length) = false := by
  unfold exE
  refine decide_eq_false (inS_ne (by show (0 : Int) < 1; decide) (all_within (e := e) (bdS_pos h) _ (bdS_pos h)).2 (inS_all hF _ _ hF fun p hp => ?_))
  obtain ⟨i, hi, rfl⟩ := PI_rng hp
  simp only [Int.toNat_natCast]
  have e1 : (l.map (T * ·)).getD i 0 = T * l.getD i 0 := by simp [List.getD_eq_getElem?_getD, hi]
  rw [e1]
  have m1 := Int.mul_nonneg (show 0 ≤ T by omega) he
  rw [Int.mul_sub, Int.mul_sub, Int.mul_neg]
  exact ⟨by omega, by omega⟩
/-- Two samples without a common factor. -/
theorem pair_emp {e : Int} {q : Sp} {la lb ix : List Int} {i k : Nat} (hF : bdS (sF q)) (he : 0 ≤ e) (hi : (i : Int) ∈ ix) (hk : (k : Int) ∈ ix) (h1 : 0 < la.getD i 0 - e) (h2 : 0 < la.getD k 0 + e)
    (h : (lb.getD i 0 + e) * (la.getD k 0 + e) < (lb.getD k 0 - e) * (la.getD i 0 - e)) : exE e q la lb ix = true := by
  unfold exE
  refine decide_eq_true ?_
  have hp := bdS_pos hF
  have w1 := all_within_at (e := e) hp (PI la lb ix) (sF q) hp _ (PI_at (la := la) (lb := lb) hi)
  have w2 := all_within_at (e := e) hp (PI la lb ix) (sF q) hp _ (PI_at (la := la) (lb := lb) hk)
  simp only [Int.toNat_natCast] at w1 w2
  have hs := (all_within (e := e) hp (PI la lb ix) hp).2
  generalize allS (sF q) e (PI la lb ix) (sF q) = o at *
  generalize la.getD i 0 = x at *
  generalize lb.getD i 0 = y at *
  generalize la.getD k 0 = z at *
  generalize lb.getD k 0 = w at *
  have u1 : ¬ ltQ (lowQ (y + e) (x - e)) (atS (sF q) e x y).2 := by
    unfold atS
    have hA : (amS (sF q) (x - e) (y + e)).2 = mnQ (sF q).2 (lowQ (y + e) (x - e)) := by unfold amS; rw [if_pos (by omega)]
    generalize amS (sF q) (x - e) (y + e) = A at *
    unfold amS
    rw [if_neg (by omega), if_pos (by omega)]
    show ¬ ltQ _ A.2
    rw [hA]; exact mn_r
  have u2 : ¬ ltQ (atS (sF q) e z w).1 (lowQ (w - e) (z + e)) := by
    unfold atS
    generalize amS (sF q) (z - e) (w + e) = A at *
    unfold amS
    rw [if_neg (by omega), if_pos (by omega), show -(e - w) = w - e by omega, show -(-z - e) = z + e by omega]
    exact mx_r
  have p1 := at_pos (e := e) (x := x) (y := y) hp
  have p2 := at_pos (e := e) (x := z) (y := w) hp
  have q1 : posQ (lowQ (w - e) (z + e)) := lowQ_pos (by omega)
  have q2 : posQ (lowQ (y + e) (x - e)) := lowQ_pos (by omega)
  exact emp_of hs q1 q2 (le_trans' q1 p2.1 hs.1 u2 w2.1) (le_trans' hs.2 p1.2 q2 w1.2 u1) (low_ltQ (by omega) (by omega) h)
theorem chk_in {n : Nat} {w : List Int} : ∀ (m i : Nat), chk n w m i = none → ∀ j, i ≤ j → j < i + m → 0 ≤ w.getD j 0 ∧ w.getD j 0 ≤ (n : Int) - 1
  | 0, i, _, j, h1, h2 => by omega
  | m + 1, i, h, j, h1, h2 => by
    unfold chk at h
    split at h
    · rename_i h3
      split at h
      · by_cases e : j = i
        · subst e; exact h3
        · exact chk_in m (i + 1) h j (by omega) (by omega)
      · cases h
    · cases h
theorem wit_two {P : Nat → Bool} {Q : Nat → Nat → Bool} {n : Nat} {l : List Int} (h : wit P Q n = some l) (h2 : l.length ≠ 1) : ∀ i < n, P i = false := by
  unfold wit at h
  rcases goA_spec (P := P) (n := n) (r := goB Q n n 0) n 0 (by omega) with ⟨j, _, _, hj⟩ | ⟨hj, _⟩
  · rw [hj] at h
    cases h
    exact absurd rfl h2
  · exact fun i hi => hj i (Nat.zero_le _) hi
end Go.Proofs.Tryz
