/- Parts of the proof, joined. -/
import Derived.Test.YtnamnocgjggnmaaDoorVf
import Derived.Test.YtnamnocgjggnmaaDoorWa
namespace Go.Proofs.Tryd
open Go.Fw Go.IntWalk Go.Plain
set_option maxRecDepth 100000
set_option maxHeartbeats 8000000
/-- The first index, or the first pair of indexes, that proves. -/
def goA (P : Nat → Bool) (r : Option (List Int)) : Nat → Nat → Option (List Int)
  | 0, _ => r
  | f + 1, i => if P i then some [(i : Int)] else goA P r f (i + 1)
def goC (Q : Nat → Bool) (i : Nat) (r : Option (List Int)) : Nat → Nat → Option (List Int)
  | 0, _ => r
  | f + 1, k => if Q k then some [(i : Int), (k : Int)] else goC Q i r f (k + 1)
def goB (Q : Nat → Nat → Bool) (n : Nat) : Nat → Nat → Option (List Int)
  | 0, _ => none
  | f + 1, i => goC (Q i) i (goB Q n f (i + 1)) (n - (i + 1)) (i + 1)
def wit (P : Nat → Bool) (Q : Nat → Nat → Bool) (n : Nat) : Option (List Int) := goA P (goB Q n n 0) n 0
theorem goA_at {P : Nat → Bool} {r : Option (List Int)} {n i : Nat} (h : i < n) : goA P r (n - i) i = if P i then some [(i : Int)] else goA P r (n - (i + 1)) (i + 1) := by
  rw [show n - i = (n - (i + 1)) + 1 by omega]; rfl
theorem goB_at {Q : Nat → Nat → Bool} {n i : Nat} (h : i < n) : goB Q n (n - i) i = goC (Q i) i (goB Q n (n - (i + 1)) (i + 1)) (n - (i + 1)) (i + 1) := by
  rw [show n - i = (n - (i + 1)) + 1 by omega]; rfl
theorem goC_at {Q : Nat → Bool} {i : Nat} {r : Option (List Int)} {n k : Nat} (h : k < n) : goC Q i r (n - k) k = if Q k then some [(i : Int), (k : Int)] else goC Q i r (n - (k + 1)) (k + 1) := by
  rw [show n - k = (n - (k + 1)) + 1 by omega]; rfl
theorem goA_end (P : Nat → Bool) (r : Option (List Int)) (n i : Nat) : goA P r (n - n) i = r := by rw [Nat.sub_self]; rfl
theorem goB_end (Q : Nat → Nat → Bool) (n i : Nat) : goB Q n (n - n) i = none := by rw [Nat.sub_self]; rfl
theorem goC_end (Q : Nat → Bool) (r : Option (List Int)) (n i k : Nat) : goC Q i r (n - n) k = r := by rw [Nat.sub_self]; rfl
/-- Whether the samples with some indexes permit no factor. -/
def exE (e : Int) (q : Sp) (la lb ix : List Int) : Bool := decide (empS (allS (sF q) e (PI la lb ix) (sF q)))
abbrev exP (e : Int) (q : Sp) (la lb : List Int) (i : Nat) : Bool := exE e q la lb [(i : Int)]
abbrev exQ (e : Int) (q : Sp) (la lb : List Int) (i k : Nat) : Bool := exE e q la lb [(i : Int), (k : Int)]
/-- The parameters of by, and whether its result is empty. -/
theorem byE {e : Int} {q : Sp} {la lb ix : List Int} (h : bdS (sF q)) (he : 0 ≤ e ∧ e ≤ 100) (hl : la.length = lb.length) (hx : ix.length ≤ 70) (ha : smpl la) (hb : smpl lb) (hi : ∀ w ∈ ix, 0 ≤ w ∧ w < la.length) :
    ∃ S : Iv, Sat cx.P cx.gl 109 [Pr (sF q) e la lb, L ix] (.one (true, iv S)) ∧ Sat cx.P cx.gl 101 [(true, iv S)] (.one (Bo (exE e q la lb ix))) :=
  ⟨_, by_sat h he hl hx ha hb hi, isEmpty_sat (allS_bd h he _ _ h (PI_mem ha hb hl hi))⟩
abbrev bPr (e : Int) (q : Sp) (la lb : List Int) : Option Blk := some (.box 155 [.st (J q.1), .st (J q.2.1), .st (J q.2.2.1), .st (J q.2.2.2), .st (J e), .st (.ints la), .st (.ints lb)])
def witO (o : Option (List Int)) : List SV := match o with | some l => [L l, I 0] | none => [L [], I 12]
def witP (z : Int) (o : Option (List Int)) : List SV := if z ≠ 0 then [L [], I z] else witO o
theorem witnessOf_sat (e : Int) (q : Sp) (ch : List Sp) (sa : Int) (la : List Int) (sb : Int) (lb : List Int) (hq : SpI q) (hch : ∀ s ∈ ch, SpI s) (hc : ch.length ≤ 4294967296) (hla : la.length ≤ maxLen) (hlb : lb.length ≤ maxLen) :
    Sat cx.P cx.gl 61 [Ru e q ch, Rc sa la, Rc sb lb] (.tup (witP (pairErr e q ch sa la sb lb) (wit (exP e q la lb) (exQ e q la lb) la.length))) := by
  have s1 := openPair_sat e q ch sa la sb lb hq hch hc hla hlb
  unfold witP
  by_cases h : pairErr e q ch sa la sb lb = 0
  · rw [h] at s1 ⊢
    rw [if_neg (by omega)]
    obtain ⟨he, hF, _, hn, hl, ha, hb⟩ := pair_facts h
    have b1 : ∀ i : Nat, i < la.length → ∃ S : Iv, Sat cx.P cx.gl 109 [Pr (sF q) e la lb, L [(i : Int)]] (.one (true, iv S)) ∧ Sat cx.P cx.gl 101 [(true, iv S)] (.one (Bo (exP e q la lb i))) := fun i hi =>
      byE (ix := [(i : Int)]) hF he hl (by simp) ha hb (fun w hw => by simp at hw; omega)
    have b2 : ∀ i k : Nat, i < la.length → k < la.length → ∃ S : Iv, Sat cx.P cx.gl 109 [Pr (sF q) e la lb, L [(i : Int), (k : Int)]] (.one (true, iv S)) ∧ Sat cx.P cx.gl 101 [(true, iv S)] (.one (Bo (exQ e q la lb i k))) := fun i k hi hk =>
      byE (ix := [(i : Int), (k : Int)]) hF he hl (by simp) ha hb (fun w hw => by simp at hw; omega)
    generalize exP e q la lb = P at *
    generalize exQ e q la lb = Q at *
    unfold wit
    refine Sat_of_awp (fn := f61) cx_ok (by kernel_rfl) (by kernel_rfl) rfl (by kernel_rfl) (Nat.le_of_ble_eq_true rfl) ?_
    repeat ((first | refine oP rfl ?_ | refine rP rfl (fun _ z => z) ?_ | (refine kO 1 rfl ?_; refine rG (fun _ z => z) ?_) | (refine kO 3 rfl ?_; first | refine rLdb rfl rfl rfl rfl rfl rfl rfl ?_ | refine rG (fun _ z => z) ?_) | (refine kO 4 rfl ?_; refine rG (fun _ z => z) ?_) | (refine kO 7 rfl ?_; refine rG (fun _ z => ⟨_, s1, z⟩) ?_) | (refine kO 6 rfl ?_; refine rLen rfl rfl rfl rfl rfl rfl ?_) | refine oN ?_ | refine aS ?_ | refine aR ?_ | refine aK ?_ | refine aB ?_ | refine aC rfl ?_ | refine bF ?_ | refine aL ?_); (try conv => whnf))
    refine loop_ind (ι := Nat) (fun i => i ≤ la.length ∧ goA P (goB Q la.length la.length 0) la.length 0 = goA P (goB Q la.length la.length 0) (la.length - i) i) (fun i => la.length - i) (fun i => ⟨[(8, pP 0), (25, vI la.length), (26, vI i)], [(0, bPr e q la lb)], 1⟩) 0 (canon_auto (by kernel_rfl)) ⟨Nat.zero_le _, rfl⟩ ?_
    rintro i ⟨hi, hg⟩
    rw [hg]
    by_cases hlt : i < la.length
    · rw [goA_at hlt] at hg ⊢
      obtain ⟨S, t1, t2⟩ := b1 i hlt
      generalize P i = p at *
      cases p
      · repeat ((first | refine oP rfl ?_ | refine rP rfl (fun _ z => z) ?_ | (refine kO 1 rfl ?_; first | refine rAdd rfl rfl rfl (by omega) ?_ | refine rG (fun _ z => z) ?_) | (refine kO 3 rfl ?_; refine rG (fun _ z => z) ?_) | (refine kO 7 rfl ?_; first | refine rG (fun _ z => ⟨_, t1, z⟩) ?_ | refine rG (fun _ z => ⟨_, t2, z⟩) ?_) | refine oN ?_ | refine aS ?_ | refine aR ?_ | refine aK ?_ | refine aB ?_ | refine aC rfl ?_ | refine bF ?_ | refine bPt (by omega) ?_); (try conv => whnf))
        exact ⟨i + 1, ⟨hlt, rfl⟩, by omega, canon_auto (by kernel_rfl)⟩
      · repeat ((first | refine oP rfl ?_ | refine rP rfl (fun _ z => z) ?_ | (refine kO 1 rfl ?_; refine rG (fun _ z => z) ?_) | (refine kO 3 rfl ?_; refine rG (fun _ z => z) ?_) | (refine kO 7 rfl ?_; first | refine rG (fun _ z => ⟨_, t1, z⟩) ?_ | refine rG (fun _ z => ⟨_, t2, z⟩) ?_) | refine oN ?_ | refine aS ?_ | refine aR ?_ | refine aK ?_ | refine aB ?_ | refine aT ?_ | refine aC rfl ?_ | refine bT ?_ | refine bPt (by omega) ?_); (try conv => whnf))
        (rfl)
    · obtain rfl : i = la.length := by omega
      rw [goA_end]
      clear hg b1
      repeat ((first | refine oP rfl ?_ | refine rP rfl (fun _ z => z) ?_ | (refine kO 1 rfl ?_; refine rG (fun _ z => z) ?_) | (refine kO 3 rfl ?_; refine rLdb rfl rfl rfl rfl rfl rfl rfl ?_) | (refine kO 6 rfl ?_; refine rLen rfl rfl rfl rfl rfl rfl ?_) | refine oN ?_ | refine aS ?_ | refine aR ?_ | refine aX ?_ | refine aB ?_ | refine aC rfl ?_ | refine bPf (by omega) ?_ | refine aL ?_); (try conv => whnf))
      refine loop_ind (ι := Nat) (fun i => i ≤ la.length ∧ goB Q la.length la.length 0 = goB Q la.length (la.length - i) i) (fun i => la.length - i) (fun i => ⟨[(8, pP 0), (39, vI la.length), (40, vI i)], [(0, bPr e q la lb)], 1⟩) 0 (canon_auto (by kernel_rfl)) ⟨Nat.zero_le _, rfl⟩ ?_
      rintro i ⟨hi, hg⟩
      rw [hg]
      by_cases hlt : i < la.length
      · rw [goB_at hlt] at hg ⊢
        repeat ((first | refine oP rfl ?_ | refine rP rfl (fun _ z => z) ?_ | (refine kO 1 rfl ?_; first | refine rAdd rfl rfl rfl (by omega) ?_ | refine rG (fun _ z => z) ?_) | refine oN ?_ | refine aS ?_ | refine aR ?_ | refine aK ?_ | refine aB ?_ | refine aC rfl ?_ | refine bPt (by omega) ?_ | refine aL ?_); (try conv => whnf))
        refine loop_ind (ι := Nat) (fun k => i + 1 ≤ k ∧ k ≤ la.length ∧ goB Q la.length la.length 0 = goC (Q i) i (goB Q la.length (la.length - (i + 1)) (i + 1)) (la.length - k) k) (fun k => la.length - k) (fun k => ⟨[(8, pP 0), (11, vI i), (12, vI k), (39, vI la.length), (40, vI i)], [(0, bPr e q la lb)], 1⟩) (i + 1) (canon_auto (by kernel_rfl)) ⟨Nat.le_refl _, hlt, hg⟩ ?_
        rintro k ⟨hk0, hk, hc'⟩
        rw [← hg, hc']
        by_cases hkt : k < la.length
        · rw [goC_at hkt] at hc' ⊢
          obtain ⟨S, t1, t2⟩ := b2 i k hlt hkt
          generalize Q i k = p at *
          cases p
          · repeat ((first | refine oP rfl ?_ | refine rP rfl (fun _ z => z) ?_ | (refine kO 1 rfl ?_; first | refine rAdd rfl rfl rfl (by omega) ?_ | refine rG (fun _ z => z) ?_) | (refine kO 3 rfl ?_; first | refine rLdb rfl rfl rfl rfl rfl rfl rfl ?_ | refine rG (fun _ z => z) ?_) | (refine kO 7 rfl ?_; first | refine rG (fun _ z => ⟨_, t1, z⟩) ?_ | refine rG (fun _ z => ⟨_, t2, z⟩) ?_) | (refine kO 6 rfl ?_; refine rLen rfl rfl rfl rfl rfl rfl ?_) | refine oN ?_ | refine aS ?_ | refine aR ?_ | refine aK ?_ | refine aB ?_ | refine aC rfl ?_ | refine bF ?_ | refine bPt (by omega) ?_); (try conv => whnf))
            exact ⟨k + 1, ⟨by omega, hkt, rfl⟩, by omega, canon_auto (by kernel_rfl)⟩
          · repeat ((first | refine oP rfl ?_ | refine rP rfl (fun _ z => z) ?_ | (refine kO 1 rfl ?_; refine rG (fun _ z => z) ?_) | (refine kO 3 rfl ?_; first | refine rLdb rfl rfl rfl rfl rfl rfl rfl ?_ | refine rG (fun _ z => z) ?_) | (refine kO 7 rfl ?_; first | refine rG (fun _ z => ⟨_, t1, z⟩) ?_ | refine rG (fun _ z => ⟨_, t2, z⟩) ?_) | (refine kO 6 rfl ?_; refine rLen rfl rfl rfl rfl rfl rfl ?_) | refine oN ?_ | refine aS ?_ | refine aR ?_ | refine aK ?_ | refine aB ?_ | refine aT ?_ | refine aC rfl ?_ | refine bT ?_ | refine bPt (by omega) ?_); (try conv => whnf))
            (rfl)
        · obtain rfl : k = la.length := by omega
          rw [goC_end] at hc' ⊢
          repeat ((first | refine oP rfl ?_ | refine rP rfl (fun _ z => z) ?_ | (refine kO 1 rfl ?_; first | refine rAdd rfl rfl rfl (by omega) ?_ | refine rG (fun _ z => z) ?_) | (refine kO 3 rfl ?_; refine rLdb rfl rfl rfl rfl rfl rfl rfl ?_) | (refine kO 6 rfl ?_; refine rLen rfl rfl rfl rfl rfl rfl ?_) | refine oN ?_ | refine aS ?_ | refine aR ?_ | refine aX ?_ | refine aC rfl ?_ | refine bPf (by omega) ?_); (try conv => whnf))
          exact ⟨i + 1, ⟨hlt, rfl⟩, by omega, canon_auto (by kernel_rfl)⟩
      · obtain rfl : i = la.length := by omega
        rw [goB_end]
        repeat ((first | refine oP rfl ?_ | refine rP rfl (fun _ z => z) ?_ | (refine kO 1 rfl ?_; refine rG (fun _ z => z) ?_) | refine oN ?_ | refine aS ?_ | refine aR ?_ | refine aX ?_ | refine aT ?_ | refine aC rfl ?_ | refine bPf (by omega) ?_); (try conv => whnf))
        (rfl)
  · rw [if_pos h]
    generalize pairErr e q ch sa la sb lb = z at *
    refine Sat_of_awp (fn := f61) cx_ok (by kernel_rfl) (by kernel_rfl) rfl (by kernel_rfl) (Nat.le_of_ble_eq_true rfl) ?_
    repeat ((first | refine oP rfl ?_ | refine rP rfl (fun _ z => z) ?_ | (refine kO 1 rfl ?_; refine rG (fun _ z => z) ?_) | (refine kO 3 rfl ?_; refine rG (fun _ z => z) ?_) | (refine kO 4 rfl ?_; refine rG (fun _ z => z) ?_) | (refine kO 7 rfl ?_; refine rG (fun _ z => ⟨_, s1, z⟩) ?_) | refine oN ?_ | refine aS ?_ | refine aR ?_ | refine aT ?_ | refine aC rfl ?_ | refine bPt (by omega) ?_); (try conv => whnf))
    (rfl)
end Go.Proofs.Tryd

namespace Go.Proofs.Tryd
open Go.Fw Go.IntWalk Go.Plain
set_option maxRecDepth 100000
set_option maxHeartbeats 8000000
def lastW (w : List Int) (i : Nat) : Int := if i = 0 then -1 else w.getD (i - 1) 0
/-- The first index that is not one of a witness. -/
def chk (n : Nat) (w : List Int) : Nat → Nat → Option (Int × Int)
  | 0, _ => none
  | f + 1, i => if 0 ≤ w.getD i 0 ∧ w.getD i 0 ≤ (n : Int) - 1 then (if w.getD i 0 > lastW w i then chk n w f (i + 1) else some (i, 9)) else some (i, 6)
theorem chk_at {n : Nat} {w : List Int} {m i : Nat} (h : i < m) : chk n w (m - i) i = if 0 ≤ w.getD i 0 ∧ w.getD i 0 ≤ (n : Int) - 1 then (if w.getD i 0 > lastW w i then chk n w (m - (i + 1)) (i + 1) else some (i, 9)) else some (i, 6) := by
  rw [show m - i = (m - (i + 1)) + 1 by omega]; rfl
theorem chk_end (n : Nat) (w : List Int) (m : Nat) : chk n w (m - m) m = none := by rw [Nat.sub_self]; rfl
def cwO (o : Option (Int × Int)) (b : Bool) : List SV := match o with | some p => [I p.1, I p.2] | none => [I 0, I (if b then 0 else 19)]
def cwR (z : Int) (o : Option (Int × Int)) (b : Bool) : List SV := if z ≠ 0 then [I 0, I z] else cwO o b
theorem first_two (x y z : Int) (h : (if x ≠ 0 then x else y) = z) : Sat cx.P cx.gl 74 [(false, [.ints [x, y]])] (.one (I z)) := by
  have := wFirst_fs [x, y] (Nat.le_of_ble_eq_true rfl)
  rwa [fs2, h] at this
theorem all_of_getD {w : List Int} {p : Int → Prop} (h : ∀ j < w.length, p (w.getD j 0)) : ∀ x ∈ w, p x := by
  intro x hx
  obtain ⟨j, hj, rfl⟩ := List.mem_iff_getElem.1 hx
  have := h j hj
  rwa [List.getD_eq_getElem?_getD, List.getElem?_eq_getElem hj] at this
theorem checkWitness_sat (e : Int) (q : Sp) (ch : List Sp) (sa : Int) (la : List Int) (sb : Int) (lb w : List Int) (hq : SpI q) (hch : ∀ s ∈ ch, SpI s) (hc : ch.length ≤ 4294967296) (hla : la.length ≤ maxLen) (hlb : lb.length ≤ maxLen) (hw : w.length ≤ 70) :
    Sat cx.P cx.gl 62 [Ru e q ch, Rp sa la sb lb, L w] (.tup (cwR (pairErr e q ch sa la sb lb) (chk la.length w w.length 0) (exE e q la lb w))) := by
  have s1 := openPair_sat e q ch sa la sb lb hq hch hc hla hlb
  unfold cwR
  by_cases h : pairErr e q ch sa la sb lb = 0
  · rw [h] at s1 ⊢
    rw [if_neg (by omega)]
    obtain ⟨he, hF, _, hn, hl, ha, hb⟩ := pair_facts h
    have b1 : (∀ x ∈ w, 0 ≤ x ∧ x < la.length) → ∃ S : Iv, Sat cx.P cx.gl 109 [Pr (sF q) e la lb, L w] (.one (true, iv S)) ∧ Sat cx.P cx.gl 101 [(true, iv S)] (.one (Bo (exE e q la lb w))) := fun hi => byE hF he hl hw ha hb hi
    generalize exE e q la lb w = B at *
    refine Sat_of_awp (fn := f62) cx_ok (by kernel_rfl) (by kernel_rfl) rfl (by kernel_rfl) (Nat.le_of_ble_eq_true rfl) ?_
    repeat ((first | refine oP rfl ?_ | refine rP rfl (fun _ z => z) ?_ | (refine kO 1 rfl ?_; refine rG (fun _ z => z) ?_) | (refine kO 3 rfl ?_; refine rG (fun _ z => z) ?_) | (refine kO 4 rfl ?_; refine rG (fun _ z => z) ?_) | (refine kO 7 rfl ?_; refine rG (fun _ z => ⟨_, s1, z⟩) ?_) | (refine kO 6 rfl ?_; refine rLen rfl rfl rfl rfl rfl rfl ?_) | refine oN ?_ | refine aS ?_ | refine aR ?_ | refine aK ?_ | refine aB ?_ | refine aC rfl ?_ | refine bF ?_ | refine aL ?_); (try conv => whnf))
    refine loop_ind (ι := Nat) (fun i => i ≤ w.length ∧ chk la.length w w.length 0 = chk la.length w (w.length - i) i ∧ ∀ j < i, 0 ≤ w.getD j 0 ∧ w.getD j 0 < la.length) (fun i => w.length - i)
      (fun i => ⟨[(2, vL w), (8, pP 0), (10, vI (lastW w i)), (26, vL w), (27, vI w.length), (28, vI i)], [(0, bPr e q la lb)], 1⟩) 0 (canon_auto (by kernel_rfl)) ⟨Nat.zero_le _, rfl, by intro j hj; omega⟩ ?_
    rintro i ⟨hi, hg, hj⟩
    rw [hg]
    by_cases hlt : i < w.length
    · rw [chk_at hlt] at hg ⊢
      have e1 : lastW w (i + 1) = w.getD i 0 := by simp [lastW]
      generalize lastW w i = la0 at *
      by_cases hin : 0 ≤ w.getD i 0 ∧ w.getD i 0 ≤ (la.length : Int) - 1
      · rw [if_pos hin] at hg ⊢
        by_cases ho : w.getD i 0 > la0
        · rw [if_pos ho] at hg ⊢
          repeat ((first | refine oP rfl ?_ | refine rP rfl (fun _ z => z) ?_ | (refine kO 1 rfl ?_; first | refine rAdd rfl rfl rfl (by omega) ?_ | refine rSub rfl rfl rfl (by omega) ?_ | refine rG (fun _ z => z) ?_) | (refine kO 3 rfl ?_; first | refine rLdr rfl rfl rfl rfl rfl ?_ | refine rLdb rfl rfl rfl rfl rfl rfl rfl ?_) | (refine kO 5 rfl ?_; refine rIdN rfl rfl rfl rfl rfl rfl rfl (by omega) ?_) | (refine kO 7 rfl ?_; first | refine rG (fun _ z => ⟨_, wWithin_p _ _ _, z⟩) ?_ | refine rG (fun _ z => ⟨_, wUnless_yes (show _ by omega) _, z⟩) ?_ | refine rG (fun _ z => ⟨_, first_two 0 0 0 (by decide), z⟩) ?_) | (refine kO 6 rfl ?_; refine rLen rfl rfl rfl rfl rfl rfl ?_) | refine oN ?_ | refine aS ?_ | refine aR ?_ | refine aK ?_ | refine aB ?_ | refine aC rfl ?_ | refine bF ?_ | refine bPt (by omega) ?_); (try conv => whnf))
          refine ⟨i + 1, ⟨hlt, rfl, ?_⟩, by omega, canon_auto (by rw [e1]; kernel_rfl)⟩
          intro j hj'
          by_cases e0 : j = i
          · subst e0; omega
          · exact hj j (by omega)
        · rw [if_neg ho]
          repeat ((first | refine oP rfl ?_ | refine rP rfl (fun _ z => z) ?_ | (refine kO 1 rfl ?_; first | refine rSub rfl rfl rfl (by omega) ?_ | refine rG (fun _ z => z) ?_) | (refine kO 3 rfl ?_; first | refine rLdr rfl rfl rfl rfl rfl ?_ | refine rLdb rfl rfl rfl rfl rfl rfl rfl ?_) | (refine kO 5 rfl ?_; refine rIdN rfl rfl rfl rfl rfl rfl rfl (by omega) ?_) | (refine kO 7 rfl ?_; first | refine rG (fun _ z => ⟨_, wWithin_p _ _ _, z⟩) ?_ | refine rG (fun _ z => ⟨_, wUnless_yes (show _ by omega) _, z⟩) ?_ | refine rG (fun _ z => ⟨_, wUnless_no (show ¬ _ by omega) _, z⟩) ?_ | refine rG (fun _ z => ⟨_, first_two 0 9 9 (by decide), z⟩) ?_) | (refine kO 6 rfl ?_; refine rLen rfl rfl rfl rfl rfl rfl ?_) | refine oN ?_ | refine aS ?_ | refine aR ?_ | refine aK ?_ | refine aB ?_ | refine aT ?_ | refine aC rfl ?_ | refine bT ?_ | refine bPt (by omega) ?_); (try conv => whnf))
          (rfl)
      · rw [if_neg hin]
        by_cases ho : w.getD i 0 > la0
        · repeat ((first | refine oP rfl ?_ | refine rP rfl (fun _ z => z) ?_ | (refine kO 1 rfl ?_; first | refine rSub rfl rfl rfl (by omega) ?_ | refine rG (fun _ z => z) ?_) | (refine kO 3 rfl ?_; first | refine rLdr rfl rfl rfl rfl rfl ?_ | refine rLdb rfl rfl rfl rfl rfl rfl rfl ?_) | (refine kO 5 rfl ?_; refine rIdN rfl rfl rfl rfl rfl rfl rfl (by omega) ?_) | (refine kO 7 rfl ?_; first | refine rG (fun _ z => ⟨_, wWithin_p _ _ _, z⟩) ?_ | refine rG (fun _ z => ⟨_, wUnless_no (show ¬ _ by omega) _, z⟩) ?_ | refine rG (fun _ z => ⟨_, wUnless_yes (show _ by omega) _, z⟩) ?_ | refine rG (fun _ z => ⟨_, first_two 6 0 6 (by decide), z⟩) ?_) | (refine kO 6 rfl ?_; refine rLen rfl rfl rfl rfl rfl rfl ?_) | refine oN ?_ | refine aS ?_ | refine aR ?_ | refine aK ?_ | refine aB ?_ | refine aT ?_ | refine aC rfl ?_ | refine bT ?_ | refine bPt (by omega) ?_); (try conv => whnf))
          (rfl)
        · repeat ((first | refine oP rfl ?_ | refine rP rfl (fun _ z => z) ?_ | (refine kO 1 rfl ?_; first | refine rSub rfl rfl rfl (by omega) ?_ | refine rG (fun _ z => z) ?_) | (refine kO 3 rfl ?_; first | refine rLdr rfl rfl rfl rfl rfl ?_ | refine rLdb rfl rfl rfl rfl rfl rfl rfl ?_) | (refine kO 5 rfl ?_; refine rIdN rfl rfl rfl rfl rfl rfl rfl (by omega) ?_) | (refine kO 7 rfl ?_; first | refine rG (fun _ z => ⟨_, wWithin_p _ _ _, z⟩) ?_ | refine rG (fun _ z => ⟨_, wUnless_no (show ¬ _ by omega) _, z⟩) ?_ | refine rG (fun _ z => ⟨_, first_two 6 9 6 (by decide), z⟩) ?_) | (refine kO 6 rfl ?_; refine rLen rfl rfl rfl rfl rfl rfl ?_) | refine oN ?_ | refine aS ?_ | refine aR ?_ | refine aK ?_ | refine aB ?_ | refine aT ?_ | refine aC rfl ?_ | refine bT ?_ | refine bPt (by omega) ?_); (try conv => whnf))
          (rfl)
    · obtain rfl : i = w.length := by omega
      rw [chk_end]
      obtain ⟨S, t1, t2⟩ := b1 (all_of_getD hj)
      clear hg hj b1
      repeat ((first | refine oP rfl ?_ | refine rP rfl (fun _ z => z) ?_ | (refine kO 1 rfl ?_; refine rG (fun _ z => z) ?_) | (refine kO 3 rfl ?_; refine rG (fun _ z => z) ?_) | (refine kO 7 rfl ?_; first | refine rG (fun _ z => ⟨_, t1, z⟩) ?_ | refine rG (fun _ z => ⟨_, t2, z⟩) ?_ | refine rG (fun _ z => ⟨_, wUnless_sat _ _, z⟩) ?_) | refine oN ?_ | refine aS ?_ | refine aR ?_ | refine aX ?_ | refine aT ?_ | refine aC rfl ?_ | refine bPf (by omega) ?_); (try conv => whnf))
      (rfl)
  · rw [if_pos h]
    generalize pairErr e q ch sa la sb lb = z at *
    refine Sat_of_awp (fn := f62) cx_ok (by kernel_rfl) (by kernel_rfl) rfl (by kernel_rfl) (Nat.le_of_ble_eq_true rfl) ?_
    repeat ((first | refine oP rfl ?_ | refine rP rfl (fun _ z => z) ?_ | (refine kO 1 rfl ?_; refine rG (fun _ z => z) ?_) | (refine kO 3 rfl ?_; refine rG (fun _ z => z) ?_) | (refine kO 4 rfl ?_; refine rG (fun _ z => z) ?_) | (refine kO 7 rfl ?_; refine rG (fun _ z => ⟨_, s1, z⟩) ?_) | refine oN ?_ | refine aS ?_ | refine aR ?_ | refine aT ?_ | refine aC rfl ?_ | refine bPt (by omega) ?_); (try conv => whnf))
    (rfl)
end Go.Proofs.Tryd

namespace Go.Proofs.Tryd
open Go.Fw Go.IntWalk Go.Plain
set_option maxRecDepth 100000
set_option maxHeartbeats 8000000
/-- What Factors returns for some indexes: none exactly if they permit no factor. -/
theorem facE {e : Int} {q : Sp} {ch : List Sp} {sa : Int} {la : List Int} {sb : Int} {lb ix : List Int} (h : pairErr e q ch sa la sb lb = 0) (hx : ix.length ≤ 70) (hi : ∀ w ∈ ix, 0 ≤ w ∧ w < la.length) :
    ∃ x : Iv, Sat cx.P cx.gl 44 [Ru e q ch, Rc sa la, Rc sb lb, L ix] (.tup [(true, iv x), Bo (!(exE e q la lb ix))]) := by
  obtain ⟨he, hF, hne, hn, hl, ha, hb⟩ := pair_facts h
  have g := refFactors_sat ch sa sb hF he hl hx ha hb hi
  unfold exE
  rcases all_one (e := e) (bdS_pos hF) (PI la lb ix) (bdS_pos hF) (within_refl _) hne with ⟨o, h1, h2, h3⟩ | ⟨h1, h2⟩
  · rw [h1] at g
    rw [h2, decide_eq_false h3]
    exact ⟨o, g⟩
  · rw [h1] at g
    rw [decide_eq_true h2]
    exact ⟨((0, 0), (0, 0)), g⟩
theorem getD_all {w : List Int} {p : Int → Prop} (h : ∀ x ∈ w, p x) {j : Nat} (hj : j < w.length) : p (w.getD j 0) := h _ (getD_mem hj)
theorem refCheckWitness_sat {e : Int} {q : Sp} {ch : List Sp} {sa : Int} {la : List Int} {sb : Int} {lb w : List Int} (h : pairErr e q ch sa la sb lb = 0) (hw : w.length ≤ 70) :
    Sat cx.P cx.gl 64 [Ru e q ch, Rp sa la sb lb, L w] (.tup (cwO (chk la.length w w.length 0) (exE e q la lb w))) := by
  have b1 := facE (ix := w) h hw
  obtain ⟨_, _, _, hn, _⟩ := pair_facts h
  clear h
  generalize exE e q la lb w = B at *
  refine Sat_of_awp (fn := f64) cx_ok (by kernel_rfl) (by kernel_rfl) rfl (by kernel_rfl) (Nat.le_of_ble_eq_true rfl) ?_
  repeat ((first | refine oP rfl ?_ | refine rP rfl (fun _ z => z) ?_ | refine oN ?_ | refine aS ?_ | refine aR ?_ | refine aB ?_ | refine aL ?_); (try conv => whnf))
  refine loop_ind (ι := Nat) (fun i => i ≤ w.length ∧ chk la.length w w.length 0 = chk la.length w (w.length - i) i ∧ ∀ j < i, 0 ≤ w.getD j 0 ∧ w.getD j 0 < la.length) (fun i => w.length - i)
    (fun i => ⟨[(2, vL w), (3, pP 0), (4, pP 1), (8, vI i)], [(0, bRu e q ch), (1, some (.box 77 [.st (J sa), .st (.ints la), .st (J sb), .st (.ints lb)]))], 2⟩) 0 (canon_auto (by kernel_rfl)) ⟨Nat.zero_le _, rfl, by intro j hj; omega⟩ ?_
  rintro i ⟨hi, hg, hj⟩
  rw [hg]
  by_cases hlt : i < w.length
  · rw [chk_at hlt] at hg ⊢
    by_cases hin : 0 ≤ w.getD i 0 ∧ w.getD i 0 ≤ (la.length : Int) - 1
    · rw [if_pos hin] at hg ⊢
      have hj' : ∀ j < i + 1, 0 ≤ w.getD j 0 ∧ w.getD j 0 < la.length := by
        intro j hj'
        by_cases e0 : j = i
        · subst e0; omega
        · exact hj j (by omega)
      by_cases h0 : i = 0
      · subst h0
        have e0 : lastW w 0 = -1 := rfl
        rw [if_pos (show w.getD 0 0 > lastW w 0 by omega)] at hg ⊢
        repeat ((first | refine oP rfl ?_ | refine rP rfl (fun _ z => z) ?_ | (refine kO 1 rfl ?_; first | refine rAdd rfl rfl rfl (by omega) ?_ | refine rSub rfl rfl rfl (by omega) ?_ | refine rG (fun _ z => z) ?_) | (refine kO 2 rfl ?_; refine rG (fun _ z => z) ?_) | (refine kO 3 rfl ?_; first | refine rLdr rfl rfl rfl rfl rfl ?_ | refine rLdb rfl rfl rfl rfl rfl rfl rfl ?_) | (refine kO 5 rfl ?_; refine rIdN rfl rfl rfl rfl rfl rfl rfl (by omega) ?_) | (refine kO 7 rfl ?_; refine rG (fun _ z => ⟨_, within_p _ _ _, z⟩) ?_) | (refine kO 6 rfl ?_; refine rLen rfl rfl rfl rfl rfl rfl ?_) | refine oN ?_ | refine aS ?_ | refine aR ?_ | refine aK ?_ | refine aB ?_ | refine aC rfl ?_ | refine bF ?_ | refine bPt (by omega) ?_ | refine bPf (by omega) ?_ | refine oZ rfl rfl rfl ?_ | refine dI (by kernel_rfl) ?_); (try conv => whnf))
        exact ⟨1, ⟨hlt, rfl, hj'⟩, by omega, canon_auto (by kernel_rfl)⟩
      · obtain ⟨k, rfl⟩ : ∃ k, i = k + 1 := ⟨i - 1, by omega⟩
        have e1 : lastW w (k + 1) = w.getD k 0 := by simp [lastW]
        have e2 : (((k + 1 : Nat) : Int) - 1).toNat = k := by omega
        rw [e1] at hg ⊢
        by_cases ho : w.getD (k + 1) 0 > w.getD k 0
        · rw [if_pos ho] at hg ⊢
          have ho' : w.getD (k + 1) 0 > w.getD (((k + 1 : Nat) : Int) - 1).toNat 0 := by rw [e2]; exact ho
          repeat ((first | refine oP rfl ?_ | refine rP rfl (fun _ z => z) ?_ | (refine kO 1 rfl ?_; first | refine rAdd rfl rfl rfl (by omega) ?_ | refine rSub rfl rfl rfl (by omega) ?_ | refine rG (fun _ z => z) ?_) | (refine kO 2 rfl ?_; refine rG (fun _ z => z) ?_) | (refine kO 3 rfl ?_; first | refine rLdr rfl rfl rfl rfl rfl ?_ | refine rLdb rfl rfl rfl rfl rfl rfl rfl ?_) | (refine kO 5 rfl ?_; first | refine rIdN rfl rfl rfl rfl rfl rfl rfl (by omega) ?_ | refine rIdx rfl rfl rfl rfl rfl rfl rfl (by omega) ?_) | (refine kO 7 rfl ?_; refine rG (fun _ z => ⟨_, within_p _ _ _, z⟩) ?_) | (refine kO 6 rfl ?_; refine rLen rfl rfl rfl rfl rfl rfl ?_) | refine oN ?_ | refine aS ?_ | refine aR ?_ | refine aK ?_ | refine aB ?_ | refine aC rfl ?_ | refine bPt (by omega) ?_ | refine bPf (by omega) ?_ | refine oY rfl rfl rfl ?_ | refine oIt rfl rfl rfl (by omega) ?_ | refine dI (by kernel_rfl) ?_); (try conv => whnf))
          exact ⟨k + 1 + 1, ⟨hlt, rfl, hj'⟩, by omega, canon_auto (by kernel_rfl)⟩
        · rw [if_neg ho]
          have ho' : ¬ w.getD (k + 1) 0 > w.getD (((k + 1 : Nat) : Int) - 1).toNat 0 := by rw [e2]; exact ho
          repeat ((first | refine oP rfl ?_ | refine rP rfl (fun _ z => z) ?_ | (refine kO 1 rfl ?_; first | refine rSub rfl rfl rfl (by omega) ?_ | refine rG (fun _ z => z) ?_) | (refine kO 2 rfl ?_; refine rG (fun _ z => z) ?_) | (refine kO 3 rfl ?_; first | refine rLdr rfl rfl rfl rfl rfl ?_ | refine rLdb rfl rfl rfl rfl rfl rfl rfl ?_) | (refine kO 5 rfl ?_; first | refine rIdN rfl rfl rfl rfl rfl rfl rfl (by omega) ?_ | refine rIdx rfl rfl rfl rfl rfl rfl rfl (by omega) ?_) | (refine kO 7 rfl ?_; refine rG (fun _ z => ⟨_, within_p _ _ _, z⟩) ?_) | (refine kO 6 rfl ?_; refine rLen rfl rfl rfl rfl rfl rfl ?_) | refine oN ?_ | refine aS ?_ | refine aR ?_ | refine aK ?_ | refine aB ?_ | refine aT ?_ | refine aC rfl ?_ | refine bPt (by omega) ?_ | refine bPf (by omega) ?_ | refine oY rfl rfl rfl ?_ | refine oIt rfl rfl rfl (by omega) ?_ | refine dI (by kernel_rfl) ?_); (try conv => whnf))
          (rfl)
    · rw [if_neg hin]
      repeat ((first | refine oP rfl ?_ | refine rP rfl (fun _ z => z) ?_ | (refine kO 1 rfl ?_; first | refine rSub rfl rfl rfl (by omega) ?_ | refine rG (fun _ z => z) ?_) | (refine kO 2 rfl ?_; refine rG (fun _ z => z) ?_) | (refine kO 3 rfl ?_; first | refine rLdr rfl rfl rfl rfl rfl ?_ | refine rLdb rfl rfl rfl rfl rfl rfl rfl ?_) | (refine kO 5 rfl ?_; refine rIdN rfl rfl rfl rfl rfl rfl rfl (by omega) ?_) | (refine kO 7 rfl ?_; refine rG (fun _ z => ⟨_, within_p _ _ _, z⟩) ?_) | (refine kO 6 rfl ?_; refine rLen rfl rfl rfl rfl rfl rfl ?_) | refine oN ?_ | refine aS ?_ | refine aR ?_ | refine aK ?_ | refine aB ?_ | refine aT ?_ | refine aC rfl ?_ | refine bPt (by omega) ?_ | refine dI (by kernel_rfl) ?_); (try conv => whnf))
      (rfl)
  · obtain rfl : i = w.length := by omega
    rw [chk_end]
    obtain ⟨x, t1⟩ := b1 (all_of_getD hj)
    clear hg hj b1
    cases B
    · repeat ((first | refine oP rfl ?_ | refine rP rfl (fun _ z => z) ?_ | (refine kO 1 rfl ?_; refine rG (fun _ z => z) ?_) | (refine kO 3 rfl ?_; refine rG (fun _ z => z) ?_) | (refine kO 4 rfl ?_; refine rG (fun _ z => z) ?_) | (refine kO 7 rfl ?_; refine rG (fun _ z => ⟨_, t1, z⟩) ?_) | (refine kO 6 rfl ?_; refine rLen rfl rfl rfl rfl rfl rfl ?_) | refine oN ?_ | refine aS ?_ | refine aR ?_ | refine aX ?_ | refine aT ?_ | refine aC rfl ?_ | refine bT ?_ | refine bPf (by omega) ?_); (try conv => whnf))
      (rfl)
    · repeat ((first | refine oP rfl ?_ | refine rP rfl (fun _ z => z) ?_ | (refine kO 1 rfl ?_; refine rG (fun _ z => z) ?_) | (refine kO 3 rfl ?_; refine rG (fun _ z => z) ?_) | (refine kO 4 rfl ?_; refine rG (fun _ z => z) ?_) | (refine kO 7 rfl ?_; refine rG (fun _ z => ⟨_, t1, z⟩) ?_) | (refine kO 6 rfl ?_; refine rLen rfl rfl rfl rfl rfl rfl ?_) | refine oN ?_ | refine aS ?_ | refine aR ?_ | refine aK ?_ | refine aX ?_ | refine aT ?_ | refine aC rfl ?_ | refine bF ?_ | refine bPf (by omega) ?_); (try conv => whnf))
      (rfl)
end Go.Proofs.Tryd

namespace Go.Proofs.Tryd
open Go.Fw Go.IntWalk Go.Plain
set_option maxRecDepth 100000
set_option maxHeartbeats 8000000
/-- What lies in s and in each span that some samples permit lies in what they permit together. -/
theorem within_all {F : Iv} {e : Int} {o : Iv} (ho : posS o) (hF : posS F) : ∀ (l : List (Int × Int)) (s : Iv), posS s → within o s → (∀ p ∈ l, within o (atS F e p.1 p.2)) → within o (allS F e l s)
  | [], _, _, h, _ => h
  | p :: l, s, hs, h, hl => by
    have hp := hl p (List.mem_cons_self ..)
    refine within_all ho hF l _ (and_pos hs (at_pos hF)) ?_ fun p hp => hl p (List.mem_cons_of_mem _ hp)
    unfold within andS mxQ mnQ at *
    refine ⟨?_, ?_⟩
    · dsimp only; split <;> simp_all
    · dsimp only; split <;> simp_all
theorem all_within_at {F : Iv} {e : Int} (hF : posS F) : ∀ (l : List (Int × Int)) (s : Iv), posS s → ∀ p ∈ l, within (allS F e l s) (atS F e p.1 p.2)
  | p :: l, s, hs, x, hx => by
    have hp : posS (atS F e p.1 p.2) := at_pos hF
    have ha := and_pos hs hp
    rcases List.mem_cons.1 hx with rfl | hx
    · obtain ⟨w, hw⟩ := all_within (e := e) hF l ha
      exact within_trans hw ha hp w (and_within_r _ _)
    · exact all_within_at hF l _ ha x hx
theorem exE_sub {e : Int} {q : Sp} {la lb ix jx : List Int} (h : bdS (sF q)) (hs : ∀ w ∈ ix, w ∈ jx) (he : exE e q la lb jx = false) : exE e q la lb ix = false := by
  unfold exE at *
  have hF := bdS_pos h
  have h1 := of_decide_eq_false he
  refine decide_eq_false fun h2 => h1 ?_
  obtain ⟨w1, p1⟩ := all_within (e := e) hF (PI la lb jx) hF
  obtain ⟨_, p2⟩ := all_within (e := e) hF (PI la lb ix) hF
  refine within_emp p1 p2 (within_all p1 hF _ _ hF w1 ?_) h2
  intro p hp
  obtain ⟨w, hw, rfl⟩ := List.mem_map.1 hp
  exact all_within_at hF _ _ hF _ (List.mem_map.2 ⟨w, hs w hw, rfl⟩)
theorem goA_none {P : Nat → Bool} {r : Option (List Int)} {n : Nat} (h : ∀ i < n, P i = false) : ∀ f i, f + i = n → goA P r f i = r
  | 0, _, _ => rfl
  | f + 1, i, hf => by
    unfold goA
    rw [h i (by omega), if_neg (by decide)]
    exact goA_none h f (i + 1) (by omega)
theorem goC_none {Q : Nat → Bool} {r : Option (List Int)} {i n : Nat} (h : ∀ k < n, Q k = false) : ∀ f k, f + k = n → goC Q i r f k = r
  | 0, _, _ => rfl
  | f + 1, k, hf => by
    unfold goC
    rw [h k (by omega), if_neg (by decide)]
    exact goC_none h f (k + 1) (by omega)
theorem goB_none {Q : Nat → Nat → Bool} {n : Nat} (h : ∀ i < n, ∀ k < n, Q i k = false) : ∀ f i, f + i = n → goB Q n f i = none
  | 0, _, _ => rfl
  | f + 1, i, hf => by
    unfold goB
    rw [goC_none (h i (by omega)) _ _ (by omega)]
    exact goB_none h f (i + 1) (by omega)
theorem wit_none {P : Nat → Bool} {Q : Nat → Nat → Bool} {n : Nat} (h : ∀ i < n, P i = false) (k : ∀ i < n, ∀ j < n, Q i j = false) : wit P Q n = none := by
  unfold wit
  rw [goA_none h n 0 rfl, goB_none k n 0 rfl]
theorem rng_mem {n i : Nat} (h : i < n) : (i : Int) ∈ rng n := List.mem_map.2 ⟨i, List.mem_range.2 h, rfl⟩
/-- Factors of all samples: no witness. -/
theorem wit_all {e : Int} {q : Sp} {la lb : List Int} (h : bdS (sF q)) (he : exE e q la lb (rng la.length) = false) : wit (exP e q la lb) (exQ e q la lb) la.length = none := by
  refine wit_none (fun i hi => exE_sub h ?_ he) (fun i hi j hj => exE_sub h ?_ he)
  · intro w hw; rw [List.mem_singleton] at hw; subst hw; exact rng_mem hi
  · intro w hw
    rcases List.mem_cons.1 hw with rfl | hw
    · exact rng_mem hi
    · rw [List.mem_singleton] at hw; subst hw; exact rng_mem hj
def witB (o : Option (List Int)) : List SV := match o with | some l => [L l, Bo true] | none => [L [], Bo false]
theorem refWitness_sat {e : Int} {q : Sp} {ch : List Sp} {sa : Int} {la : List Int} {sb : Int} {lb : List Int} (h : pairErr e q ch sa la sb lb = 0) :
    Sat cx.P cx.gl 65 [Ru e q ch, Rc sa la, Rc sb lb] (.tup (witB (wit (exP e q la lb) (exQ e q la lb) la.length))) := by
  obtain ⟨he, hF, _, hn, hl, ha, hb⟩ := pair_facts h
  have b1 : ∀ i : Nat, i < la.length → ∃ S : Iv, Sat cx.P cx.gl 44 [Ru e q ch, Rc sa la, Rc sb lb, L [(i : Int)]] (.tup [(true, iv S), Bo (!(exP e q la lb i))]) := fun i hi =>
    facE (ix := [(i : Int)]) h (by simp) (fun w hw => by simp at hw; omega)
  have b2 : ∀ i k : Nat, i < la.length → k < la.length → ∃ S : Iv, Sat cx.P cx.gl 44 [Ru e q ch, Rc sa la, Rc sb lb, L [(i : Int), (k : Int)]] (.tup [(true, iv S), Bo (!(exQ e q la lb i k))]) := fun i k hi hk =>
    facE (ix := [(i : Int), (k : Int)]) h (by simp) (fun w hw => by simp at hw; omega)
  obtain ⟨S0, s0⟩ := facE (ix := rng la.length) h (by rw [rng_len]; omega) (fun w hw => rng_in _ w hw)
  have s1 := refAll_sat sa (l := la) (by omega)
  have hw := wit_all (e := e) (la := la) (lb := lb) hF
  generalize exE e q la lb (rng la.length) = B at *
  cases B
  · rw [hw rfl]
    clear hw b1 b2
    generalize rng la.length = r at *
    refine Sat_of_awp (fn := f65) cx_ok (by kernel_rfl) (by kernel_rfl) rfl (by kernel_rfl) (Nat.le_of_ble_eq_true rfl) ?_
    repeat ((first | refine oP rfl ?_ | refine rP rfl (fun _ z => z) ?_ | (refine kO 3 rfl ?_; refine rG (fun _ z => z) ?_) | (refine kO 4 rfl ?_; refine rG (fun _ z => z) ?_) | (refine kO 7 rfl ?_; first | refine rG (fun _ z => ⟨_, s1, z⟩) ?_ | refine rG (fun _ z => ⟨_, s0, z⟩) ?_) | refine oN ?_ | refine aS ?_ | refine aR ?_ | refine aT ?_ | refine aC rfl ?_ | refine bT ?_ | refine dI (by kernel_rfl) ?_); (try conv => whnf))
    (rfl)
  · clear hw
    generalize rng la.length = r at *
    generalize exP e q la lb = P at *
    generalize exQ e q la lb = Q at *
    unfold wit
    refine Sat_of_awp (fn := f65) cx_ok (by kernel_rfl) (by kernel_rfl) rfl (by kernel_rfl) (Nat.le_of_ble_eq_true rfl) ?_
    repeat ((first | refine oP rfl ?_ | refine rP rfl (fun _ z => z) ?_ | (refine kO 3 rfl ?_; first | refine rLdb rfl rfl rfl rfl rfl rfl rfl ?_ | refine rG (fun _ z => z) ?_) | (refine kO 4 rfl ?_; refine rG (fun _ z => z) ?_) | (refine kO 7 rfl ?_; first | refine rG (fun _ z => ⟨_, s1, z⟩) ?_ | refine rG (fun _ z => ⟨_, s0, z⟩) ?_) | (refine kO 6 rfl ?_; refine rLen rfl rfl rfl rfl rfl rfl ?_) | refine oN ?_ | refine aS ?_ | refine aR ?_ | refine aK ?_ | refine aB ?_ | refine aC rfl ?_ | refine bF ?_ | refine aL ?_ | refine dI (by kernel_rfl) ?_); (try conv => whnf))
    refine loop_ind (ι := Nat) (fun i => i ≤ la.length ∧ goA P (goB Q la.length la.length 0) la.length 0 = goA P (goB Q la.length la.length 0) (la.length - i) i) (fun i => la.length - i) (fun i => ⟨[(3, pP 0), (4, pP 1), (5, pP 2), (10, vI la.length), (11, vI i)], [(0, bRu e q ch), (1, bRc sa la), (2, bRc sb lb)], 3⟩) 0 (canon_auto (by kernel_rfl)) ⟨Nat.zero_le _, rfl⟩ ?_
    rintro i ⟨hi, hg⟩
    rw [hg]
    by_cases hlt : i < la.length
    · rw [goA_at hlt] at hg ⊢
      obtain ⟨S, t1⟩ := b1 i hlt
      generalize P i = p at *
      cases p
      · repeat ((first | refine oP rfl ?_ | refine rP rfl (fun _ z => z) ?_ | (refine kO 1 rfl ?_; first | refine rAdd rfl rfl rfl (by omega) ?_ | refine rG (fun _ z => z) ?_) | (refine kO 2 rfl ?_; refine rG (fun _ z => z) ?_) | (refine kO 3 rfl ?_; refine rG (fun _ z => z) ?_) | (refine kO 4 rfl ?_; refine rG (fun _ z => z) ?_) | (refine kO 7 rfl ?_; refine rG (fun _ z => ⟨_, t1, z⟩) ?_) | refine oN ?_ | refine aS ?_ | refine aR ?_ | refine aK ?_ | refine aB ?_ | refine aC rfl ?_ | refine bF ?_ | refine bPt (by omega) ?_); (try conv => whnf))
        exact ⟨i + 1, ⟨hlt, rfl⟩, by omega, canon_auto (by kernel_rfl)⟩
      · repeat ((first | refine oP rfl ?_ | refine rP rfl (fun _ z => z) ?_ | (refine kO 1 rfl ?_; refine rG (fun _ z => z) ?_) | (refine kO 2 rfl ?_; refine rG (fun _ z => z) ?_) | (refine kO 3 rfl ?_; refine rG (fun _ z => z) ?_) | (refine kO 4 rfl ?_; refine rG (fun _ z => z) ?_) | (refine kO 7 rfl ?_; refine rG (fun _ z => ⟨_, t1, z⟩) ?_) | refine oN ?_ | refine aS ?_ | refine aR ?_ | refine aK ?_ | refine aB ?_ | refine aT ?_ | refine aC rfl ?_ | refine bT ?_ | refine bPt (by omega) ?_); (try conv => whnf))
        (rfl)
    · obtain rfl : i = la.length := by omega
      rw [goA_end]
      clear hg b1
      repeat ((first | refine oP rfl ?_ | refine rP rfl (fun _ z => z) ?_ | (refine kO 1 rfl ?_; refine rG (fun _ z => z) ?_) | refine oN ?_ | refine aS ?_ | refine aR ?_ | refine aX ?_ | refine aB ?_ | refine aC rfl ?_ | refine bPf (by omega) ?_ | refine aL ?_); (try conv => whnf))
      refine loop_ind (ι := Nat) (fun i => i ≤ la.length ∧ goB Q la.length la.length 0 = goB Q la.length (la.length - i) i) (fun i => la.length - i) (fun i => ⟨[(3, pP 0), (4, pP 1), (5, pP 2), (10, vI la.length), (14, vI i)], [(0, bRu e q ch), (1, bRc sa la), (2, bRc sb lb)], 3⟩) 0 (canon_auto (by kernel_rfl)) ⟨Nat.zero_le _, rfl⟩ ?_
      rintro i ⟨hi, hg⟩
      rw [hg]
      by_cases hlt : i < la.length
      · rw [goB_at hlt] at hg ⊢
        repeat ((first | refine oP rfl ?_ | refine rP rfl (fun _ z => z) ?_ | (refine kO 1 rfl ?_; first | refine rAdd rfl rfl rfl (by omega) ?_ | refine rG (fun _ z => z) ?_) | refine oN ?_ | refine aS ?_ | refine aR ?_ | refine aK ?_ | refine aB ?_ | refine aC rfl ?_ | refine bPt (by omega) ?_ | refine aL ?_); (try conv => whnf))
        refine loop_ind (ι := Nat) (fun k => i + 1 ≤ k ∧ k ≤ la.length ∧ goB Q la.length la.length 0 = goC (Q i) i (goB Q la.length (la.length - (i + 1)) (i + 1)) (la.length - k) k) (fun k => la.length - k) (fun k => ⟨[(3, pP 0), (4, pP 1), (5, pP 2), (10, vI la.length), (14, vI i), (15, vI k)], [(0, bRu e q ch), (1, bRc sa la), (2, bRc sb lb)], 3⟩) (i + 1) (canon_auto (by kernel_rfl)) ⟨Nat.le_refl _, hlt, hg⟩ ?_
        rintro k ⟨hk0, hk, hc'⟩
        rw [← hg, hc']
        by_cases hkt : k < la.length
        · rw [goC_at hkt] at hc' ⊢
          obtain ⟨S, t1⟩ := b2 i k hlt hkt
          generalize Q i k = p at *
          cases p
          · repeat ((first | refine oP rfl ?_ | refine rP rfl (fun _ z => z) ?_ | (refine kO 1 rfl ?_; first | refine rAdd rfl rfl rfl (by omega) ?_ | refine rG (fun _ z => z) ?_) | (refine kO 2 rfl ?_; refine rG (fun _ z => z) ?_) | (refine kO 3 rfl ?_; refine rG (fun _ z => z) ?_) | (refine kO 4 rfl ?_; refine rG (fun _ z => z) ?_) | (refine kO 7 rfl ?_; refine rG (fun _ z => ⟨_, t1, z⟩) ?_) | refine oN ?_ | refine aS ?_ | refine aR ?_ | refine aK ?_ | refine aB ?_ | refine aC rfl ?_ | refine bF ?_ | refine bPt (by omega) ?_); (try conv => whnf))
            exact ⟨k + 1, ⟨by omega, hkt, rfl⟩, by omega, canon_auto (by kernel_rfl)⟩
          · repeat ((first | refine oP rfl ?_ | refine rP rfl (fun _ z => z) ?_ | (refine kO 1 rfl ?_; refine rG (fun _ z => z) ?_) | (refine kO 2 rfl ?_; refine rG (fun _ z => z) ?_) | (refine kO 3 rfl ?_; refine rG (fun _ z => z) ?_) | (refine kO 4 rfl ?_; refine rG (fun _ z => z) ?_) | (refine kO 7 rfl ?_; refine rG (fun _ z => ⟨_, t1, z⟩) ?_) | refine oN ?_ | refine aS ?_ | refine aR ?_ | refine aK ?_ | refine aB ?_ | refine aT ?_ | refine aC rfl ?_ | refine bT ?_ | refine bPt (by omega) ?_); (try conv => whnf))
            (rfl)
        · obtain rfl : k = la.length := by omega
          rw [goC_end] at hc' ⊢
          repeat ((first | refine oP rfl ?_ | refine rP rfl (fun _ z => z) ?_ | (refine kO 1 rfl ?_; first | refine rAdd rfl rfl rfl (by omega) ?_ | refine rG (fun _ z => z) ?_) | refine oN ?_ | refine aS ?_ | refine aR ?_ | refine aX ?_ | refine aC rfl ?_ | refine bPf (by omega) ?_); (try conv => whnf))
          exact ⟨i + 1, ⟨hlt, rfl⟩, by omega, canon_auto (by kernel_rfl)⟩
      · obtain rfl : i = la.length := by omega
        rw [goB_end]
        repeat ((first | refine oP rfl ?_ | refine rP rfl (fun _ z => z) ?_ | (refine kO 1 rfl ?_; refine rG (fun _ z => z) ?_) | refine oN ?_ | refine aS ?_ | refine aR ?_ | refine aX ?_ | refine aT ?_ | refine aC rfl ?_ | refine bPf (by omega) ?_); (try conv => whnf))
        (rfl)
end Go.Proofs.Tryd
