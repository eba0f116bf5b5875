/- Parts of the proof, joined. -/
import Derived.Test.YtflcnhmckeiacaaGreatDoorFe
import Derived.Test.YtflcnhmckeiacaaGreatDoorP
import Derived.Test.YtflcnhmckeiacaaGreatDoorWa
import Derived.RangeFuncCalls
import Derived.RangeFuncLeaves
import Derived.WalkKit
import Derived.OwnWalkIn
import Derived.TacticsInMore
import Derived.LoopNIn
import Derived.LoopIn
import Derived.Test.YtflcnhmckeiacaaGreatDoorProg
import Derived.Test.YtflcnhmckeiacaaGreatDoorWc
namespace Go.Proofs.Tryz
open Go Go.RowKit Go.Shelf Go.Fw Go.Plain
attribute [local go_sem] Oper.semAt_some
/-- A case as a row of arguments. -/
def caRow (c : Ca) : Array Value := #[.agg #[.int .i64 c.1, .int .i64 c.2.1, .int .i64 c.2.2.1, .int .i64 c.2.2.2]]
/-- The design's box. -/
def BoxD (b : Nat) (v0 : Value) (at' : Option Addr) (T ct : Nat) (lo hi : Int) (af : Option Addr) (F cf : Nat) (l0 l1 l2 l3 : Value) (W : World) : Prop :=
  W.heap[b]? = some (.cells #[v0, .slice at' T ct, .int .i64 lo, .int .i64 hi, .slice af F cf, l0, l1, l2, l3] 74)
theorem BoxD.cell {b : Nat} {v0 : Value} {at' : Option Addr} {T ct : Nat} {lo hi : Int} {af : Option Addr} {F cf : Nat} {l0 l1 l2 l3 : Value} {W : World} (h : BoxD b v0 at' T ct lo hi af F cf l0 l1 l2 l3 W) :
    W.cell? ⟨b, 1, none⟩ = some (.slice at' T ct) ∧ W.cell? ⟨b, 2, none⟩ = some (.int .i64 lo) ∧ W.cell? ⟨b, 3, none⟩ = some (.int .i64 hi) ∧ W.cell? ⟨b, 4, none⟩ = some (.slice af F cf) := by
  unfold BoxD at h
  refine ⟨?_, ?_, ?_, ?_⟩
  all_goals (unfold World.cell?; simp only [h]; rfl)
theorem prefix_get {α : Type} {p L : List α} {c : α} (h : p ++ [c] <+: L) : L[p.length]? = some c := by
  obtain ⟨r, rfl⟩ := h
  simp
set_option maxRecDepth 100000 in
set_option maxHeartbeats 4000000 in
theorem cases_iter (mv : Mem) (v0 l0 l1 l2 l3 : Value) (at' af : Option Addr) (T ct F cf : Nat) (lo hi : Int) (hT : T ≤ 1000) (hF : F ≤ 1000) (hlo : -3 ≤ lo ∧ lo ≤ 3) (hhi : -3 ≤ hi ∧ hi ≤ 3) (w : World) :
    Iter prog 33 #[.agg #[v0, .slice at' T ct, .int .i64 lo, .int .i64 hi, .slice af F cf, l0, l1, l2, l3]] #[] ((casL T lo hi F).map caRow) mv w := by
  intro l J Jx W M0 hW hM0 hJ hJx _ hY h0
  have hsz : w.heap.size ≤ W.heap.size := hW.size
  have hmv : ∀ s W1, J s W1 → True := fun _ _ _ => trivial
  refine callsIn_of_wp Tryz.func33 rfl trivial ?_ rfl
  simp only [Tryz.ntmps33, List.size_toArray, List.length_cons, List.length_nil, Nat.reduceAdd, Nat.reduceSub, Array.replicate_succ, Array.replicate_zero, List.push_toArray, List.append_toArray, List.nil_append, List.cons_append, Array.append_empty, List.append_nil]
  gi_wp2
  have hJ1 : J (0, M0) (W.alloc (.cells #[v0, .slice at' T ct, .int .i64 lo, .int .i64 hi, .slice af F cf, l0, l1, l2, l3] 74)) := hJ (0, M0) W _ none h0 (World.grownBy_alloc W _ none) (fun r e => by cases e)
  have hMb : ¬ M0 W.heap.size := fun h => Nat.lt_irrefl _ (hM0 _ h)
  clear hM0 h0
  gi_loopw [8] (fun v wr => ∃ k : Nat, k ≤ 4 ∧ v = .int .i64 k ∧ BoxD W.heap.size v0 at' T ct lo hi af F cf l0 l1 l2 l3 wr ∧ ∃ M, J ((casPre k 0 0 0 T lo (hi - lo + 1).toNat F).length, M) wr ∧ ¬ M W.heap.size)
    (fun v _ => 4 - (intOf v).toNat)
  case atStart =>
    refine ⟨0, Nat.zero_le _, rfl, ?_, M0, by rw [casPre_0]; exact hJ1, hMb⟩
    exact World.alloc_heap_new W _
  case round =>
    clear hJ1 hMb
    obtain ⟨k, hk, rfl, hB, M1, hJk, hM1⟩ := hrel
    by_cases hk4 : k < 4
    · have e1 : decide ((k : Int) < 4) = true := decide_eq_true (by omega)
      have c1 := hB.cell.1
      gi_wp2
      gi_loopw [15] (fun v wr => ∃ t : Nat, t ≤ T ∧ v = .int .i64 t ∧ BoxD W.heap.size v0 at' T ct lo hi af F cf l0 l1 l2 l3 wr ∧ ∃ M, J ((casPre k t 0 0 T lo (hi - lo + 1).toNat F).length, M) wr ∧ ¬ M W.heap.size)
        (fun v _ => T - (intOf v).toNat)
      case atStart => exact ⟨0, Nat.zero_le _, rfl, hB, M1, hJk, hM1⟩
      case round =>
        clear hB hJk c1 hM1 M1
        obtain ⟨t, ht, rfl, hB, M1, hJt, hM1⟩ := hrel
        have c1 := hB.cell.1
        have c2 := hB.cell.2.1
        have c3 := hB.cell.2.2.1
        by_cases htT : t < T
        · have e2 : decide ((t : Int) < T) = true := decide_eq_true (by omega)
          gi_wp2
          gi_loopw [6] (fun v wr => ∃ s : Nat, s ≤ (hi - lo + 1).toNat ∧ v = .int .i64 (lo + s) ∧ BoxD W.heap.size v0 at' T ct lo hi af F cf l0 l1 l2 l3 wr ∧ ∃ M, J ((casPre k t s 0 T lo (hi - lo + 1).toNat F).length, M) wr ∧ ¬ M W.heap.size)
            (fun v _ => (hi - lo + 1).toNat - (intOf v - lo).toNat)
          case atStart => exact ⟨0, Nat.zero_le _, by simp, hB, M1, hJt, hM1⟩
          case round =>
            clear hB hJt c1 c2 c3 hM1 M1
            obtain ⟨s, hs, rfl, hB, M1, hJs, hM1⟩ := hrel
            have c3 := hB.cell.2.2.1
            have c4 := hB.cell.2.2.2
            by_cases hsS : s < (hi - lo + 1).toNat
            · have e3 : decide (lo + (s : Int) ≤ hi) = true := decide_eq_true (by omega)
              gi_wp2
              gi_loopw [34] (fun v wr => ∃ f : Nat, f ≤ F ∧ v = .int .i64 f ∧ BoxD W.heap.size v0 at' T ct lo hi af F cf l0 l1 l2 l3 wr ∧ ∃ M, J ((casPre k t s f T lo (hi - lo + 1).toNat F).length, M) wr ∧ ¬ M W.heap.size)
                (fun v _ => F - (intOf v).toNat)
              case atStart => exact ⟨0, Nat.zero_le _, rfl, hB, M1, hJs, hM1⟩
              case round =>
                clear hB hJs c3 c4 hM1 M1
                obtain ⟨f, hf, rfl, hB, M1, hJf, hM1⟩ := hrel
                by_cases hfF : f < F
                · have e4 : decide ((f : Int) < F) = true := decide_eq_true (by omega)
                  have hpre := casPre_prefix (K := 4) (lo := lo) hk4 htT hsS hfF
                  have hx : ((casL T lo hi F).map caRow)[(casPre k t s f T lo (hi - lo + 1).toNat F).length]? = some (caRow ((k : Int), (t : Int), lo + (s : Int), (f : Int))) := by
                    rw [List.getElem?_map, show casL T lo hi F = casK 4 T lo (hi - lo + 1).toNat F from rfl, prefix_get hpre]; rfl
                  obtain ⟨fn, tmps, assign, body, hy, hR⟩ := hY _ _ _ wr hx hJf
                  unfold caRow at hy
                  dsimp only at hy
                  gi_wp2
                  refine ⟨rfl, hR.mono ?_⟩
                  rintro e W3 (⟨rfl, M3, hJ3, hs3, hl3, hk3⟩ | ⟨rfl, hJx3⟩)
                  · have hlt : W.heap.size < wr.heap.size := (Array.getElem?_eq_some_iff.1 hB).1
                    have hB3 : BoxD W.heap.size v0 at' T ct lo hi af F cf l0 l1 l2 l3 W3 := hk3 _ _ _ hB hM1
                    have hM3 : ¬ M3 W.heap.size := fun h => by
                      rcases hl3 _ h with h | h
                      · exact hM1 h
                      · omega
                    gi_wp2
                    refine ⟨⟨f + 1, by omega, by simp, hB3, M3, by rw [casPre_next, List.length_append]; exact hJ3, hM3⟩, by simp [intOf]; omega⟩
                  · gi_wp2
                    refine bodyPost_ret (results_none rfl _ _ _) rfl ?_
                    exact ⟨⟨_, rfl⟩, .inr hJx3⟩
                · obtain rfl : f = F := by omega
                  have e4 : decide ((f : Int) < f) = false := decide_eq_false (by omega)
                  gi_wp2
                  exact ⟨⟨s + 1, by omega, by rw [show lo + (s : Int) + 1 = lo + ((s + 1 : Nat) : Int) by omega], hB, M1, by rw [← casPre_F]; exact hJf, hM1⟩, by simp only [intOf]; omega⟩
            · have e3 : decide (lo + (s : Int) ≤ hi) = false := decide_eq_false (by omega)
              obtain rfl : s = (hi - lo + 1).toNat := by omega
              gi_wp2
              exact ⟨⟨t + 1, by omega, by simp, hB, M1, by rw [← casPre_S]; exact hJs, hM1⟩, by simp only [intOf]; omega⟩
        · have e2 : decide ((t : Int) < T) = false := decide_eq_false (by omega)
          obtain rfl : t = T := by omega
          gi_wp2
          exact ⟨⟨k + 1, by omega, by simp, hB, M1, by rw [← casPre_T]; exact hJt, hM1⟩, by simp only [intOf]; omega⟩
    · have e1 : decide ((k : Int) < 4) = false := decide_eq_false (by omega)
      obtain rfl : k = 4 := by omega
      gi_wp2
      go_end0
      refine ⟨⟨_, rfl⟩, .inl ⟨M1, ?_⟩⟩
      rw [casPre_K] at hJk
      rw [List.length_map]; exact hJk
/-- A fault. -/
abbrev Fa : Type := Int × Int × Int × Int × Int × Int
abbrev fcs (f : Fa) : List SC := [J f.1, J f.2.1, J f.2.2.1, J f.2.2.2.1, J f.2.2.2.2.1, J f.2.2.2.2.2]
/-- A design. -/
abbrev Ds (a : List Int) (ts : List (List Int)) (lo hi : Int) (fl : List Fa) (l0 l1 l2 l3 : Int) : SV := (true, [.ints a, .view (ts.map fun t => [.ints t]), J lo, J hi, .view (fl.map fcs), J l0, J l1, J l2, J l3])
abbrev CaX (c : Ca) : SV := (true, [J c.1, J c.2.1, J c.2.2.1, J c.2.2.2])
abbrev F4i (x : Int × Int × Int × Int) : SV := (true, [J x.1, J x.2.1, J x.2.2.1, J x.2.2.2])
abbrev bDs (a : List Int) (ts : List (List Int)) (lo hi : Int) (fl : List Fa) (l0 l1 l2 l3 : Int) (T : Nat) : Option Blk := some (.box T [.st (.ints a), .st (.view (ts.map fun t => [.ints t])), .st (J lo), .st (J hi), .st (.view (fl.map fcs)), .st (J l0), .st (J l1), .st (J l2), .st (J l3)])
theorem cases_it (a : List Int) (ts : List (List Int)) (lo hi : Int) (fl : List Fa) (l0 l1 l2 l3 : Int) (hT : ts.length ≤ 1000) (hF : fl.length ≤ 1000) (hlo : -3 ≤ lo ∧ lo ≤ 3) (hhi : -3 ≤ hi ∧ hi ≤ 3) :
    SatIt cx.P cx.gl 33 [Ds a ts lo hi fl l0 l1 l2 l3] [] ((casL ts.length lo hi fl.length).map fun c => [CaX c]) := by
  refine ⟨by kernel_rfl, fun mv w fb cv hmv hgl hfb hcv => ⟨(casL ts.length lo hi fl.length).map caRow, by simp, fun i x r hx hr => ?_, ?_⟩⟩
  · rw [List.getElem?_map, Option.map_eq_some_iff] at hx hr
    obtain ⟨c, hc, rfl⟩ := hx
    obtain ⟨c', hc', rfl⟩ := hr
    rw [hc] at hc'; cases hc'
    refine ⟨rfl, fun k x hk => ?_⟩
    match k, hk with
    | 0, hk =>
      simp at hk; subst hk
      refine ⟨_, rfl, rfl, fun k c' hk => ?_⟩
      match k, hk with
      | 0, hk => simp at hk; subst hk; exact .lit rfl
      | 1, hk => simp at hk; subst hk; exact .lit rfl
      | 2, hk => simp at hk; subst hk; exact .lit rfl
      | 3, hk => simp at hk; subst hk; exact .lit rfl
      | k + 4, hk => simp at hk
    | k + 1, hk => simp at hk
  · have hcv0 : cv = #[] := Array.eq_empty_of_size_eq_zero hcv.1
    subst hcv0
    obtain ⟨f, rfl, hf⟩ := repL_list hfb
    obtain ⟨g, hg, hgr⟩ := repB_agg (hf 0 _ rfl)
    obtain ⟨at', ct, e1, _⟩ := Rep.len_zero (hgr 1 _ rfl) rfl
    obtain ⟨af, cf, e4, _⟩ := Rep.len_zero (hgr 4 _ rfl) rfl
    have e2 := rep_litv (hgr 2 _ rfl)
    have e3 := rep_litv (hgr 3 _ rfl)
    have hfb' : (List.map f (List.range 1)).toArray = #[.agg #[g 0, .slice at' ts.length ct, .int .i64 lo, .int .i64 hi, .slice af fl.length cf, g 5, g 6, g 7, g 8]] := by
      simp [List.range_succ_eq_map, hg, e1, e2, e3, e4, SC.len]
    show Iter _ _ (List.map f (List.range 1)).toArray _ _ _ _
    rw [hfb']
    exact cases_iter mv (g 0) (g 5) (g 6) (g 7) (g 8) at' af ts.length ct fl.length cf lo hi hT hF hlo hhi w
end Go.Proofs.Tryz

namespace Go.Proofs.Tryz
open Go.Fw Go.IntWalk Go.Plain
set_option maxRecDepth 100000
set_option maxHeartbeats 8000000
/-- The parts of a design that a case names. -/
def tapF (ts : List (List Int)) (c : Ca) : List Int := ts.getD c.2.1.toNat []
def faF (fl : List Fa) (c : Ca) : Fa := fl.getD c.2.2.2.toNat (0, 0, 0, 0, 0, 0)
def liF (l0 l1 l2 l3 : Int) (c : Ca) : Int := if c.1 = 0 then l0 else if c.1 = 1 then l1 else if c.1 = 2 then l2 else l3
def unF (a : List Int) (ts : List (List Int)) (c : Ca) : Int := unitV (shI a c.2.2.1) (shO (tapF ts c) c.2.2.1) c.1
def pkA (f : Fa) : Int := lowN (f.1 * f.2.2.2.2.1) (f.2.2.2.1 * f.2.2.2.2.2)
def pkB (f : Fa) : Int := lowD (f.1 * f.2.2.2.2.1) (f.2.2.2.1 * f.2.2.2.2.2)
def pkN (f : Fa) : Int := lowN (f.2.1 * f.2.2.2.2.1) (f.2.2.1 * f.2.2.2.2.2)
def pkD (f : Fa) : Int := lowD (f.2.1 * f.2.2.2.2.1) (f.2.2.1 * f.2.2.2.2.2)
def fErr (f : Fa) : Int := faultErr f.1 f.2.1 f.2.2.1 f.2.2.2.1 f.2.2.2.2.1 f.2.2.2.2.2
theorem tap_get {ts : List (List Int)} {t : Nat} (h : t < ts.length) : (ts.map fun t => [SC.ints t])[t]? = some [.ints (ts.getD t [])] := by
  simp [List.getD_eq_getElem?_getD, h]
theorem fault_get {fl : List Fa} {f : Nat} (h : f < fl.length) : (fl.map fcs)[f]? = some (fcs (fl.getD f (0, 0, 0, 0, 0, 0))) := by
  simp [List.getD_eq_getElem?_getD, h]
theorem tap_mem {ts : List (List Int)} {t : Nat} (h : t < ts.length) : ts.getD t [] ∈ ts := by
  simp [List.getD_eq_getElem?_getD, h]
theorem fault_mem {fl : List Fa} {f : Nat} (h : f < fl.length) : fl.getD f (0, 0, 0, 0, 0, 0) ∈ fl := by
  simp [List.getD_eq_getElem?_getD, h]
/-- What is wrong with a design. -/
def dErr1 (a : List Int) (ts : List (List Int)) : Int := if 0 < ts.length then (if ts.length ≤ 4 ∧ a.length ≤ 12 then 0 else 8) else 10
def dErr2 (lo hi : Int) (fl : List Fa) : Int := if AllIn [lo, hi] (-3) 3 then (if lo ≤ hi then (if 0 < fl.length then (if fl.length ≤ 4 then 0 else 8) else 10) else 9) else 2
def tErr (a : List Int) (ts : List (List Int)) : Int := fs (ts.map fun t => windowErr a t)
def aErr (fl : List Fa) : Int := fs (fl.map fErr)
def dErr (a : List Int) (ts : List (List Int)) (lo hi : Int) (fl : List Fa) (l0 l1 l2 l3 : Int) : Int :=
  if dErr1 a ts ≠ 0 then dErr1 a ts else if tErr a ts ≠ 0 then tErr a ts else if dErr2 lo hi fl ≠ 0 then dErr2 lo hi fl else if aErr fl ≠ 0 then aErr fl else if AllIn [l0, l1, l2, l3] 1 100000000 then 0 else 2
theorem fsd1 {p q : Prop} [Decidable p] [Decidable q] : fs [if p then 0 else 10, if q then 0 else 8] = if p then (if q then 0 else 8) else 10 := by
  simp only [fs, ifE (show (10 : Int) ≠ 0 by decide), if0]
theorem fsd2 {p q r s : Prop} [Decidable p] [Decidable q] [Decidable r] [Decidable s] : fs [if p then 0 else 2, if q then 0 else 9, if r then 0 else 10, if s then 0 else 8] = if p then (if q then (if r then (if s then 0 else 8) else 10) else 9) else 2 := by
  simp only [fs, ifE (show (2 : Int) ≠ 0 by decide), ifE (show (9 : Int) ≠ 0 by decide), ifE (show (10 : Int) ≠ 0 by decide), if0]
theorem fs_dropd {α : Type} {d : α} {f : α → Int} {l : List α} {i : Nat} (h : i < l.length) : fs ((l.drop i).map f) = if f (l.getD i d) ≠ 0 then f (l.getD i d) else fs ((l.drop (i + 1)).map f) := by
  rw [List.drop_eq_getElem_cons h, List.map_cons]
  simp [fs, List.getD_eq_getElem?_getD, h]
section
variable (a : List Int) (ts : List (List Int)) (lo hi : Int) (fl : List Fa) (l0 l1 l2 l3 : Int)
theorem checkDesign_sat (ha : a.length ≤ maxLen) (ht : ∀ t ∈ ts, t.length ≤ maxLen) (hT : ts.length ≤ maxLen) (hF : fl.length ≤ maxLen) (hf : ∀ f ∈ fl, inI f.2.2.2.2.1 ∧ inI f.2.2.2.2.2) :
    Sat cx.P cx.gl 11 [Ds a ts lo hi fl l0 l1 l2 l3] (.one (I (dErr a ts lo hi fl l0 l1 l2 l3))) := by
  have hml : (ts.map fun t => [SC.ints t]).length = ts.length := List.length_map _
  have hmf : (fl.map fcs).length = fl.length := List.length_map _
  have hF' : fl.length ≤ 9223372036854775807 := by have := hF; unfold maxLen at this; omega
  have key : ∀ {p q : Prop} [Decidable p] [Decidable q], (p ↔ 0 < ts.length) → (q ↔ ts.length ≤ 4 ∧ a.length ≤ 12) → fs [if p then 0 else 10, if q then 0 else 8] = dErr1 a ts := by
    intro p q _ _ h1 h2
    rw [fsd1]; unfold dErr1
    simp only [h1, h2]
  have key2 : ∀ {p q r s : Prop} [Decidable p] [Decidable q] [Decidable r] [Decidable s], (p ↔ AllIn [lo, hi] (-3) 3) → (q ↔ lo ≤ hi) → (r ↔ 0 < fl.length) → (s ↔ fl.length ≤ 4) → fs [if p then 0 else 2, if q then 0 else 9, if r then 0 else 10, if s then 0 else 8] = dErr2 lo hi fl := by
    intro p q r s _ _ _ _ h1 h2 h3 h4
    rw [fsd2]; unfold dErr2
    simp only [h1, h2, h3, h4]
  have loopT : ∀ i, i < ts.length → fs ((ts.drop i).map fun t => windowErr a t) = if windowErr a (ts.getD i []) ≠ 0 then windowErr a (ts.getD i []) else fs ((ts.drop (i + 1)).map fun t => windowErr a t) := fun i h => fs_dropd h
  have loopF : ∀ i, i < fl.length → fs ((fl.drop i).map fErr) = if fErr (fl.getD i (0, 0, 0, 0, 0, 0)) ≠ 0 then fErr (fl.getD i (0, 0, 0, 0, 0, 0)) else fs ((fl.drop (i + 1)).map fErr) := fun i h => fs_dropd h
  have dE1 : dErr1 a ts ≠ 0 → dErr a ts lo hi fl l0 l1 l2 l3 = dErr1 a ts := fun h => by unfold dErr; rw [if_pos h]
  have dE2 : ¬ dErr1 a ts ≠ 0 → tErr a ts ≠ 0 → dErr a ts lo hi fl l0 l1 l2 l3 = tErr a ts := fun h h' => by unfold dErr; rw [if_neg h, if_pos h']
  have dE3 : ¬ dErr1 a ts ≠ 0 → ¬ tErr a ts ≠ 0 → dErr2 lo hi fl ≠ 0 → dErr a ts lo hi fl l0 l1 l2 l3 = dErr2 lo hi fl := fun h h' h2 => by unfold dErr; rw [if_neg h, if_neg h', if_pos h2]
  have dE4 : ¬ dErr1 a ts ≠ 0 → ¬ tErr a ts ≠ 0 → ¬ dErr2 lo hi fl ≠ 0 → aErr fl ≠ 0 → dErr a ts lo hi fl l0 l1 l2 l3 = aErr fl := fun h h' h2 h3 => by unfold dErr; rw [if_neg h, if_neg h', if_neg h2, if_pos h3]
  have dE5 : ¬ dErr1 a ts ≠ 0 → ¬ tErr a ts ≠ 0 → ¬ dErr2 lo hi fl ≠ 0 → ¬ aErr fl ≠ 0 → dErr a ts lo hi fl l0 l1 l2 l3 = if AllIn [l0, l1, l2, l3] 1 100000000 then 0 else 2 := fun h h' h2 h3 => by unfold dErr; rw [if_neg h, if_neg h', if_neg h2, if_neg h3]
  by_cases h4 : ts.length ≤ 4
  all_goals
    refine Sat_of_awp (fn := f11) cx_ok (by kernel_rfl) (by kernel_rfl) rfl (by kernel_rfl) (Nat.le_of_ble_eq_true rfl) ?_
    repeat ((first | refine oP rfl ?_ | refine rP rfl (fun _ z => z) ?_ | (refine kO 1 rfl ?_; refine rG (fun _ z => z) ?_) | (refine kO 3 rfl ?_; refine rLdb rfl rfl rfl rfl rfl rfl rfl ?_) | (refine kO 7 rfl ?_; first | refine rG (fun _ z => ⟨_, unless_p _, z⟩) ?_ | refine rG (fun _ z => ⟨_, first_fs _ (Nat.le_of_ble_eq_true rfl), z⟩) ?_) | (refine kO 6 rfl ?_; first | refine rLen rfl rfl rfl rfl rfl rfl ?_ | refine rLenv rfl rfl rfl rfl rfl rfl ?_) | refine oN ?_ | refine aS ?_ | refine aR ?_ | refine aC rfl ?_ | refine oY rfl rfl rfl ?_ | refine oZ rfl rfl rfl ?_ | refine oIt rfl rfl rfl (by omega) ?_ | refine oIf rfl rfl rfl (by omega) ?_ | refine dI (by kernel_rfl) ?_); (try conv => whnf))
  · rw [key]
    rotate_left
    · omega
    · omega
    ((refine brp (fun h => ?_) (fun h => ?_)) <;> (try conv => whnf))
    · rw [dE1 h]
      repeat ((first | refine oP rfl ?_ | refine rP rfl (fun _ z => z) ?_ | refine oN ?_ | refine aS ?_ | refine aR ?_ | refine aT ?_); (try conv => whnf))
      (rfl)
    · have d1 := h
      repeat ((first | refine oP rfl ?_ | refine rP rfl (fun _ z => z) ?_ | (refine kO 3 rfl ?_; refine rLdb rfl rfl rfl rfl rfl rfl rfl ?_) | (refine kO 6 rfl ?_; refine rLenv rfl rfl rfl rfl rfl rfl ?_) | refine oN ?_ | refine aS ?_ | refine aR ?_ | refine aK ?_ | refine aB ?_ | refine aL ?_); (try conv => whnf))
      refine loop_ind (ι := Nat) (fun i => i ≤ ts.length ∧ tErr a ts = fs ((ts.drop i).map fun t => windowErr a t)) (fun i => ts.length - i) (fun i => ⟨[(1, pP 0), (33, some (.val (false, [.st (.view (ts.map fun t => [.ints t]))]))), (34, vI ts.length), (35, vI i)], [(0, bDs a ts lo hi fl l0 l1 l2 l3 29)], 1⟩) 0 (canon_auto (by rw [List.length_map]; kernel_rfl)) ⟨Nat.zero_le _, rfl⟩ ?_
      rintro i ⟨hii, he⟩
      repeat ((first | refine oP rfl ?_ | (refine kO 1 rfl ?_; refine rG (fun _ z => z) ?_) | refine oN ?_ | refine aS ?_ | refine aR ?_ | refine aC rfl ?_); (try conv => whnf))
      ((refine brp (fun h => ?_) (fun h => ?_)) <;> (try conv => whnf))
      · have hlt : i < ts.length := by omega
        have hget := tap_get hlt
        have g := checkWindow_sat a (ts.getD i []) ha (ht _ (tap_mem hlt))
        rw [loopT i hlt] at he
        repeat ((first | refine oP rfl ?_ | refine rP rfl (fun _ z => z) ?_ | (refine kO 1 rfl ?_; refine rG (fun _ z => z) ?_) | (refine kO 3 rfl ?_; first | refine rLdr rfl rfl rfl rfl rfl ?_ | refine rLdb rfl rfl rfl rfl rfl rfl rfl ?_) | (refine kO 5 rfl ?_; refine rIdvN rfl rfl rfl rfl rfl rfl (by assumption) rfl ?_) | (refine kO 7 rfl ?_; refine rG (fun _ z => ⟨_, g, z⟩) ?_) | refine oN ?_ | refine aS ?_ | refine aR ?_ | refine aK ?_ | refine aB ?_ | refine aC rfl ?_); (try conv => whnf))
        ((refine brp (fun h => ?_) (fun h => ?_)) <;> (try conv => whnf))
        · rw [if_pos h] at he
          rw [dE2 d1 (by omega), he]
          repeat ((first | refine oP rfl ?_ | refine rP rfl (fun _ z => z) ?_ | refine oN ?_ | refine aS ?_ | refine aR ?_ | refine aT ?_); (try conv => whnf))
          (rfl)
        · rw [if_neg h] at he
          repeat ((first | refine oP rfl ?_ | refine rP rfl (fun _ z => z) ?_ | (refine kO 1 rfl ?_; refine rAdd rfl rfl rfl (by omega) ?_) | refine oN ?_ | refine aR ?_ | refine aK ?_); (try conv => whnf))
          exact ⟨i + 1, ⟨hlt, he⟩, by omega, canon_auto (by kernel_rfl)⟩
      · obtain rfl : i = ts.length := by omega
        have d2 : ¬ tErr a ts ≠ 0 := by rw [he, List.drop_length]; exact fun h => h rfl
        clear he
        have gf := fails_sat [lo, hi] (-3) 3 (show 2 ≤ maxLen by decide)
        repeat ((first | refine oP rfl ?_ | refine rP rfl (fun _ z => z) ?_ | (refine kO 1 rfl ?_; refine rG (fun _ z => z) ?_) | (refine kO 3 rfl ?_; refine rLdb rfl rfl rfl rfl rfl rfl rfl ?_) | (refine kO 7 rfl ?_; first | refine rG (fun _ z => ⟨_, gf, z⟩) ?_ | refine rG (fun _ z => ⟨_, unless_p _, z⟩) ?_ | refine rG (fun _ z => ⟨_, first_fs _ (Nat.le_of_ble_eq_true rfl), z⟩) ?_) | (refine kO 6 rfl ?_; refine rLenv rfl rfl rfl rfl rfl rfl ?_) | refine oN ?_ | refine aS ?_ | refine aR ?_ | refine aX ?_ | refine aC rfl ?_ | refine dI (by kernel_rfl) ?_); (try conv => whnf))
        rw [key2]
        rotate_left
        · exact Iff.rfl
        · omega
        · omega
        · omega
        ((refine brp (fun h => ?_) (fun h => ?_)) <;> (try conv => whnf))
        · rw [dE3 d1 d2 h]
          repeat ((first | refine oP rfl ?_ | refine rP rfl (fun _ z => z) ?_ | refine oN ?_ | refine aS ?_ | refine aR ?_ | refine aT ?_); (try conv => whnf))
          (rfl)
        · have d3 := h
          repeat ((first | refine oP rfl ?_ | refine rP rfl (fun _ z => z) ?_ | (refine kO 3 rfl ?_; refine rLdb rfl rfl rfl rfl rfl rfl rfl ?_) | (refine kO 6 rfl ?_; refine rLenv rfl rfl rfl rfl rfl rfl ?_) | refine oN ?_ | refine aS ?_ | refine aR ?_ | refine aK ?_ | refine aB ?_ | refine aL ?_); (try conv => whnf))
          refine loop_ind (ι := Nat) (fun i => i ≤ fl.length ∧ aErr fl = fs ((fl.drop i).map fErr)) (fun i => fl.length - i) (fun i => ⟨[(1, pP 0), (80, some (.val (false, [.st (.view (fl.map fcs))]))), (81, vI fl.length), (82, vI i)], [(0, bDs a ts lo hi fl l0 l1 l2 l3 29)], 1⟩) 0 (canon_auto (by rw [List.length_map]; kernel_rfl)) ⟨Nat.zero_le _, rfl⟩ ?_
          rintro i ⟨hii, he⟩
          repeat ((first | refine oP rfl ?_ | (refine kO 1 rfl ?_; refine rG (fun _ z => z) ?_) | refine oN ?_ | refine aS ?_ | refine aR ?_ | refine aC rfl ?_); (try conv => whnf))
          ((refine brp (fun h => ?_) (fun h => ?_)) <;> (try conv => whnf))
          · have hlt : i < fl.length := by omega
            have hget := fault_get hlt
            have g : Sat cx.P cx.gl 44 [(true, fcs (fl.getD i (0, 0, 0, 0, 0, 0)))] (.one (I (fErr (fl.getD i (0, 0, 0, 0, 0, 0))))) := checkFault_sat _ _ _ _ _ _ (hf _ (fault_mem hlt)).1 (hf _ (fault_mem hlt)).2
            rw [loopF i hlt] at he
            repeat ((first | refine oP rfl ?_ | refine rP rfl (fun _ z => z) ?_ | (refine kO 1 rfl ?_; refine rG (fun _ z => z) ?_) | (refine kO 3 rfl ?_; refine rG (fun _ z => z) ?_) | (refine kO 4 rfl ?_; refine rG (fun _ z => z) ?_) | (refine kO 5 rfl ?_; refine rIdvN rfl rfl rfl rfl rfl rfl (by assumption) rfl ?_) | (refine kO 7 rfl ?_; refine rG (fun _ z => ⟨_, g, z⟩) ?_) | refine oN ?_ | refine aS ?_ | refine aR ?_ | refine aK ?_ | refine aB ?_ | refine aC rfl ?_); (try conv => whnf))
            ((refine brp (fun h => ?_) (fun h => ?_)) <;> (try conv => whnf))
            · rw [if_pos h] at he
              rw [dE4 d1 d2 d3 (by omega), he]
              repeat ((first | refine oP rfl ?_ | refine rP rfl (fun _ z => z) ?_ | refine oN ?_ | refine aS ?_ | refine aR ?_ | refine aT ?_); (try conv => whnf))
              (rfl)
            · rw [if_neg h] at he
              repeat ((first | refine oP rfl ?_ | refine rP rfl (fun _ z => z) ?_ | (refine kO 1 rfl ?_; refine rAdd rfl rfl rfl (by omega) ?_) | refine oN ?_ | refine aR ?_ | refine aK ?_); (try conv => whnf))
              exact ⟨i + 1, ⟨hlt, he⟩, by omega, canon_auto (by kernel_rfl)⟩
          · obtain rfl : i = fl.length := by omega
            have d4 : ¬ aErr fl ≠ 0 := by rw [he, List.drop_length]; exact fun h => h rfl
            clear he
            rw [dE5 d1 d2 d3 d4]
            have gf := fails_sat [l0, l1, l2, l3] 1 100000000 (show 4 ≤ maxLen by decide)
            repeat ((first | refine oP rfl ?_ | refine rP rfl (fun _ z => z) ?_ | (refine kO 7 rfl ?_; refine rG (fun _ z => ⟨_, gf, z⟩) ?_) | (refine kO 8 rfl ?_; refine rG (fun _ z => z) ?_) | refine oN ?_ | refine aS ?_ | refine aR ?_ | refine aX ?_ | refine aT ?_); (try conv => whnf))
            (rfl)
  · rw [key]
    rotate_left
    · omega
    · exact ⟨(fun h => nomatch h), fun h => absurd h.1 h4⟩
    ((refine brp (fun h => ?_) (fun h => ?_)) <;> (try conv => whnf))
    · rw [dE1 h]
      repeat ((first | refine oP rfl ?_ | refine rP rfl (fun _ z => z) ?_ | refine oN ?_ | refine aS ?_ | refine aR ?_ | refine aT ?_); (try conv => whnf))
      (rfl)
    · exfalso
      apply h
      unfold dErr1
      split
      · rw [if_neg (fun h => h4 h.1)]; decide
      · decide
theorem openDesign_sat (ha : a.length ≤ maxLen) (ht : ∀ t ∈ ts, t.length ≤ maxLen) (hT : ts.length ≤ maxLen) (hF : fl.length ≤ maxLen) (hf : ∀ f ∈ fl, inI f.2.2.2.2.1 ∧ inI f.2.2.2.2.2) :
    Sat cx.P cx.gl 28 [Ds a ts lo hi fl l0 l1 l2 l3] (.tup [Ds a ts lo hi fl l0 l1 l2 l3, I (dErr a ts lo hi fl l0 l1 l2 l3)]) := by
  have g := checkDesign_sat a ts lo hi fl l0 l1 l2 l3 ha ht hT hF hf
  refine Sat_of_awp (fn := f28) cx_ok (by kernel_rfl) (by kernel_rfl) rfl (by kernel_rfl) (Nat.le_of_ble_eq_true rfl) ?_
  repeat ((first | refine oP rfl ?_ | refine rP rfl (fun _ z => z) ?_ | (refine kO 3 rfl ?_; refine rG (fun _ z => z) ?_) | (refine kO 4 rfl ?_; refine rG (fun _ z => z) ?_) | (refine kO 7 rfl ?_; refine rG (fun _ z => ⟨_, g, z⟩) ?_) | refine oN ?_ | refine aS ?_ | refine aR ?_ | refine aT ?_ | refine dI (by kernel_rfl) ?_); (try conv => whnf))
  (rfl)
/-- What is wrong with a case of a design. -/
def cErr (T : Nat) (lo hi : Int) (F : Nat) (c : Ca) : Int := if 0 ≤ c.1 ∧ c.1 ≤ 3 then (if (0 ≤ c.2.1 ∧ c.2.1 < T) ∧ 0 ≤ c.2.2.2 ∧ c.2.2.2 < F then (if lo ≤ c.2.2.1 ∧ c.2.2.1 ≤ hi then 0 else 2) else 6) else 15
theorem cErr_zero {T : Nat} {lo hi : Int} {F : Nat} {c : Ca} : cErr T lo hi F c = 0 ↔ CaOK T lo hi F c := by
  unfold cErr CaOK
  constructor
  · intro h
    (repeat' split at h) <;> omega
  · rintro ⟨h1, h2, h3, h4⟩
    rw [if_pos h1, if_pos ⟨h2, h4⟩, if_pos h3]
theorem fsc {p q r : Prop} [Decidable p] [Decidable q] [Decidable r] : fs [if p then 0 else 15, if q then 0 else 6, if r then 0 else 2] = if p then (if q then (if r then 0 else 2) else 6) else 15 := by
  simp only [fs, ifE (show (15 : Int) ≠ 0 by decide), ifE (show (6 : Int) ≠ 0 by decide), if0]
theorem caseErr_sat (c : Ca) (hT : ts.length ≤ 1000000) (hF : fl.length ≤ 1000000) : Sat cx.P cx.gl 29 [Ds a ts lo hi fl l0 l1 l2 l3, CaX c] (.one (I (cErr ts.length lo hi fl.length c))) := by
  obtain ⟨k, t, s, f⟩ := c
  have hml : (ts.map fun t => [SC.ints t]).length = ts.length := List.length_map _
  have hmf : (fl.map fcs).length = fl.length := List.length_map _
  by_cases ht : 0 ≤ t ∧ t ≤ (ts.length : Int) - 1
  all_goals
    show Sat _ _ _ [Ds a ts lo hi fl l0 l1 l2 l3, (true, [J k, J t, J s, J f])] _
    refine Sat_of_awp (fn := f29) cx_ok (by kernel_rfl) (by kernel_rfl) rfl (by kernel_rfl) (Nat.le_of_ble_eq_true rfl) ?_
    repeat ((first | refine oP rfl ?_ | refine rP rfl (fun _ z => z) ?_ | (refine kO 1 rfl ?_; refine rSub rfl rfl rfl (by omega) ?_) | (refine kO 3 rfl ?_; refine rLdb rfl rfl rfl rfl rfl rfl rfl ?_) | (refine kO 7 rfl ?_; first | refine rG (fun _ z => ⟨_, isKind_sat _, z⟩) ?_ | refine rG (fun _ z => ⟨_, unless_p _, z⟩) ?_ | refine rG (fun _ z => ⟨_, within52_sat _ _ _, z⟩) ?_ | refine rG (fun _ z => ⟨_, first_fs _ (Nat.le_of_ble_eq_true rfl), z⟩) ?_) | (refine kO 6 rfl ?_; refine rLenv rfl rfl rfl rfl rfl rfl ?_) | refine oN ?_ | refine aS ?_ | refine aR ?_ | refine aT ?_ | refine oY rfl rfl rfl ?_ | refine oZ rfl rfl rfl ?_ | refine oIt rfl rfl rfl (by omega) ?_ | refine oIf rfl rfl rfl (by omega) ?_ | refine dI (by kernel_rfl) ?_); (try conv => whnf))
    refine res_i ?_
    rw [fsc]
    unfold cErr
    simp only [List.length_map]
    (repeat' split) <;> first | rfl | omega | contradiction
end
end Go.Proofs.Tryz

namespace Go.Proofs.Tryz
open Go.Fw Go.IntWalk Go.Plain
set_option maxRecDepth 100000
set_option maxHeartbeats 8000000
section
variable (a : List Int) (ts : List (List Int)) (lo hi : Int) (fl : List Fa) (l0 l1 l2 l3 : Int)
theorem cas_get {T : Nat} {lo hi : Int} {F : Nat} {i : Nat} {r : List SV} (h : ((casL T lo hi F).map fun c => [CaX c])[i]? = some r) : ∃ c, (casL T lo hi F)[i]? = some c ∧ r = [CaX c] := by
  rw [List.getElem?_map, Option.map_eq_some_iff] at h
  obtain ⟨c, hc, rfl⟩ := h
  exact ⟨c, hc, rfl⟩
theorem worse_sat (x : Int × Int × Int × Int) (ld : Ca → Int × Int × Int × Int) (gt : Ca → Bool) (hT : ts.length ≤ 1000) (hF : fl.length ≤ 1000) (hlo : -3 ≤ lo ∧ lo ≤ 3) (hhi : -3 ≤ hi ∧ hi ≤ 3)
    (h1 : ∀ c ∈ casL ts.length lo hi fl.length, Sat cx.P cx.gl 51 [Ds a ts lo hi fl l0 l1 l2 l3, CaX c] (.one (F4i (ld c))))
    (h2 : ∀ c ∈ casL ts.length lo hi fl.length, Sat cx.P cx.gl 80 [F4i x, F4i (ld c)] (.one (Bo (gt c)))) :
    Sat cx.P cx.gl 50 [Ds a ts lo hi fl l0 l1 l2 l3, F4i x] (.tup (match (casL ts.length lo hi fl.length).find? gt with | some c => [CaX c, Bo true] | none => [CaX (0, 0, 0, 0), Bo false])) := by
  obtain ⟨x0, x1, x2, x3⟩ := x
  have hit := cases_it a ts lo hi fl l0 l1 l2 l3 hT hF hlo hhi
  refine Sat_of_awp (fn := f50) cx_ok (by kernel_rfl) (by kernel_rfl) rfl (by kernel_rfl) (Nat.le_of_ble_eq_true rfl) ?_
  refine aS ?_; (refine aR ?_; conv => whnf); repeat ((first | refine oP rfl ?_ | refine rP rfl (fun _ z => z) ?_ | refine oN ?_); (try conv => whnf))
  refine aS ?_
  refine awp_seqw ?_; (refine aR ?_; conv => whnf); repeat ((first | refine oP rfl ?_ | refine rP rfl (fun _ z => z) ?_ | (refine kO 3 rfl ?_; refine rG (fun _ z => z) ?_) | refine oN ?_); (try conv => whnf))
  refine ⟨⟨[(2, pP 0), (3, pP 1), (4, pP 2), (5, pP 3), (8, some (.val (false, [.st (.fn 33 [Ds a ts lo hi fl l0 l1 l2 l3] [])])))],
    [(0, bDs a ts lo hi fl l0 l1 l2 l3 74), (1, some (.box 103 [.st (J x0), .st (J x1), .st (J x2), .st (J x3)])), (2, some (.box 31 [.st (J 0), .st (J 0), .st (J 0), .st (J 0)])), (3, some (.box 4 [.st (.lit (.bool false))]))], 4⟩, canon_auto (by kernel_rfl), ?_⟩
  refine aB ?_
  refine aF rfl _ (fun _ => [(0, bDs a ts lo hi fl l0 l1 l2 l3 74), (1, some (.box 103 [.st (J x0), .st (J x1), .st (J x2), .st (J x3)])), (2, some (.box 31 [.st (J 0), .st (J 0), .st (J 0), .st (J 0)])), (3, some (.box 4 [.st (.lit (.bool false))]))]) 4
    (fun i => ∀ c ∈ (casL ts.length lo hi fl.length).take i, gt c = false) hit (fun r hr => by obtain ⟨c, _, rfl⟩ := List.mem_map.1 hr; rfl) (by kernel_rfl) (Sub.refl _) (by simp) ?_ ?_
  · intro i r hr hno
    obtain ⟨c, hc, rfl⟩ := cas_get hr
    have hcl := List.mem_of_getElem? hc
    have g1 := h1 c hcl
    have g2 := h2 c hcl
    obtain ⟨k, t, s, f⟩ := c
    cases hgt : gt (k, t, s, f) with
    | false =>
      rw [hgt] at g2
      have hno' : ∀ c ∈ (casL ts.length lo hi fl.length).take (i + 1), gt c = false := by
        intro c hm
        rw [List.take_add_one, hc] at hm
        rcases List.mem_append.1 hm with hm | hm
        · exact hno c hm
        · simp at hm; subst hm; exact hgt
      show Awp cx _ ⟨(9, some (.val (dyn (CaX (k, t, s, f))))) :: _, _, _⟩ _ _ _
      (refine aR ?_; conv => whnf)
      repeat ((first | refine oP rfl ?_ | refine rP rfl (fun _ z => z) ?_ | (refine kO 3 rfl ?_; refine rG (fun _ z => z) ?_) | (refine kO 4 rfl ?_; refine rG (fun _ z => z) ?_) | (refine kO 7 rfl ?_; first | refine rG (fun _ z => ⟨_, g1, z⟩) ?_ | refine rG (fun _ z => ⟨_, g2, z⟩) ?_) | refine oN ?_ | refine aS ?_ | refine aR ?_ | refine aK ?_ | refine aB ?_ | refine aC rfl ?_ | refine bF ?_ | refine dI (by kernel_rfl) ?_); (try conv => whnf))
      refine ⟨hno', canon_auto (by kernel_rfl)⟩
    | true =>
      rw [hgt] at g2
      have hfd : (casL ts.length lo hi fl.length).find? gt = some (k, t, s, f) := by
        have e : (casL ts.length lo hi fl.length)[i]'(List.getElem?_eq_some_iff.1 hc).1 = (k, t, s, f) := (List.getElem?_eq_some_iff.1 hc).2
        have hs : casL ts.length lo hi fl.length = (casL ts.length lo hi fl.length).take i ++ (k, t, s, f) :: (casL ts.length lo hi fl.length).drop (i + 1) := by
          rw [← e]; simp
        rw [hs, List.find?_append, List.find?_eq_none.2 (fun x hx => by rw [hno x hx]; decide)]
        simp [hgt]
      rw [hfd]
      show Awp cx _ ⟨(9, some (.val (dyn (CaX (k, t, s, f))))) :: _, _, _⟩ _ _ _
      (refine aR ?_; conv => whnf)
      repeat ((first | refine oP rfl ?_ | refine rP rfl (fun _ z => z) ?_ | (refine kO 3 rfl ?_; refine rG (fun _ z => z) ?_) | (refine kO 4 rfl ?_; refine rG (fun _ z => z) ?_) | (refine kO 7 rfl ?_; first | refine rG (fun _ z => ⟨_, g1, z⟩) ?_ | refine rG (fun _ z => ⟨_, g2, z⟩) ?_) | refine oN ?_ | refine aS ?_ | refine aR ?_ | refine aB ?_ | refine aT ?_ | refine aC rfl ?_ | refine bT ?_ | refine dI (by kernel_rfl) ?_); (try conv => whnf))
      refine ⟨[(0, bDs a ts lo hi fl l0 l1 l2 l3 74), (1, some (.box 103 [.st (J x0), .st (J x1), .st (J x2), .st (J x3)])), (2, some (.box 31 [.st (J k), .st (J t), .st (J s), .st (J f)])), (3, some (.box 4 [.st (.lit (.bool true))]))], 4, canon_auto (by kernel_rfl), ?_⟩
      (rfl)
  · intro hno
    have hfd : (casL ts.length lo hi fl.length).find? gt = none := List.find?_eq_none.2 fun x hx => by
      rw [hno x (by rw [List.length_map, List.take_length]; exact hx)]; decide
    rw [hfd]
    conv => whnf
    repeat ((first | refine oP rfl ?_ | refine rP rfl (fun _ z => z) ?_ | (refine kO 4 rfl ?_; refine rG (fun _ z => z) ?_) | refine oN ?_ | refine aS ?_ | refine aR ?_ | refine aT ?_); (try conv => whnf))
    (rfl)
end
end Go.Proofs.Tryz

namespace Go.Proofs.Tryz
open Go.Fw Go.IntWalk Go.Plain
set_option maxRecDepth 100000
set_option maxHeartbeats 8000000
section
variable (a : List Int) (ts : List (List Int)) (lo hi : Int) (fl : List Fa) (l0 l1 l2 l3 : Int)
theorem withstands_err (e : Int) (he : e ≠ 0) (h0 : Sat cx.P cx.gl 28 [Ds a ts lo hi fl l0 l1 l2 l3] (.tup [Ds a ts lo hi fl l0 l1 l2 l3, I e])) :
    Sat cx.P cx.gl 9 [Ds a ts lo hi fl l0 l1 l2 l3] (.tup [I 0, I e]) := by
  refine Sat_of_awp (fn := f9) cx_ok (by kernel_rfl) (by kernel_rfl) rfl (by kernel_rfl) (Nat.le_of_ble_eq_true rfl) ?_
  repeat ((first | refine oP rfl ?_ | refine rP rfl (fun _ z => z) ?_ | (refine kO 1 rfl ?_; refine rG (fun _ z => z) ?_) | (refine kO 3 rfl ?_; refine rG (fun _ z => z) ?_) | (refine kO 4 rfl ?_; refine rG (fun _ z => z) ?_) | (refine kO 7 rfl ?_; refine rG (fun _ z => ⟨_, h0, z⟩) ?_) | refine oN ?_ | refine aS ?_ | refine aR ?_ | refine aT ?_ | refine aC rfl ?_ | refine bPt (by omega) ?_); (try conv => whnf))
  (rfl)
theorem withstands_sat (pk : Ca → Int × Int × Int × Int) (wa wb : Ca → List Int) (un hf : Ca → Int) (hT : ts.length ≤ 1000) (hF : fl.length ≤ 1000) (hlo : -3 ≤ lo ∧ lo ≤ 3) (hhi : -3 ≤ hi ∧ hi ≤ 3)
    (h0 : Sat cx.P cx.gl 28 [Ds a ts lo hi fl l0 l1 l2 l3] (.tup [Ds a ts lo hi fl l0 l1 l2 l3, I 0]))
    (h1 : ∀ c ∈ casL ts.length lo hi fl.length, Sat cx.P cx.gl 35 [(true, fcs (fl.getD c.2.2.2.toNat (0, 0, 0, 0, 0, 0)))] (.one (F4i (pk c))))
    (h2 : ∀ c ∈ casL ts.length lo hi fl.length, Sat cx.P cx.gl 30 [Ds a ts lo hi fl l0 l1 l2 l3, CaX c] (.one (W2 (wa c) (wb c))))
    (h3 : ∀ c ∈ casL ts.length lo hi fl.length, Sat cx.P cx.gl 36 [W2 (wa c) (wb c), I c.1] (.one (I (un c))))
    (h4 : ∀ c ∈ casL ts.length lo hi fl.length, Sat cx.P cx.gl 34 [F4i (pk c), I (un c), I (if c.1 = 0 then l0 else if c.1 = 1 then l1 else if c.1 = 2 then l2 else l3)] (.one (I (hf c)))) :
    Sat cx.P cx.gl 9 [Ds a ts lo hi fl l0 l1 l2 l3] (.tup [I (leastF hf (casL ts.length lo hi fl.length) 2), I 0]) := by
  have hit := cases_it a ts lo hi fl l0 l1 l2 l3 hT hF hlo hhi
  refine Sat_of_awp (fn := f9) cx_ok (by kernel_rfl) (by kernel_rfl) rfl (by kernel_rfl) (Nat.le_of_ble_eq_true rfl) ?_
  refine aS ?_; (refine aR ?_; conv => whnf); repeat ((first | refine oP rfl ?_ | refine rP rfl (fun _ z => z) ?_ | refine oN ?_); (try conv => whnf))
  refine aS ?_; (refine aR ?_; conv => whnf); repeat ((first | refine oP rfl ?_ | refine rP rfl (fun _ z => z) ?_ | (refine kO 3 rfl ?_; refine rG (fun _ z => z) ?_) | (refine kO 4 rfl ?_; refine rG (fun _ z => z) ?_) | (refine kO 7 rfl ?_; refine rG (fun _ z => ⟨_, h0, z⟩) ?_) | refine oN ?_); (try conv => whnf))
  refine aS ?_
  refine aS ?_; (refine aR ?_; conv => whnf); repeat ((first | refine oP rfl ?_ | refine rP rfl (fun _ z => z) ?_ | (refine kO 1 rfl ?_; refine rG (fun _ z => z) ?_) | refine oN ?_); (try conv => whnf))
  repeat ((first | refine aK ?_ | refine aC rfl ?_ | refine bF ?_); (try conv => whnf))
  refine aS ?_; (refine aR ?_; conv => whnf); repeat ((first | refine oP rfl ?_ | refine rP rfl (fun _ z => z) ?_ | (refine kO 4 rfl ?_; refine rG (fun _ z => z) ?_) | refine oN ?_); (try conv => whnf))
  refine aS ?_
  refine awp_seqw ?_; (refine aR ?_; conv => whnf); repeat ((first | refine oP rfl ?_ | refine rP rfl (fun _ z => z) ?_ | (refine kO 3 rfl ?_; refine rG (fun _ z => z) ?_) | refine oN ?_); (try conv => whnf))
  refine ⟨⟨[(1, pP 0), (4, pP 1), (6, pP 2), (17, some (.val (false, [.st (.fn 33 [Ds a ts lo hi fl l0 l1 l2 l3] [])])))],
    [(0, bDs a ts lo hi fl l0 l1 l2 l3 29), (1, bDs a ts lo hi fl l0 l1 l2 l3 74), (2, some (.box 3 [.st (J 2)]))], 3⟩, canon_auto (by kernel_rfl), ?_⟩
  refine aB ?_
  refine aF rfl _ (fun i => [(0, bDs a ts lo hi fl l0 l1 l2 l3 29), (1, bDs a ts lo hi fl l0 l1 l2 l3 74), (2, some (.box 3 [.st (J (leastF hf ((casL ts.length lo hi fl.length).take i) 2))]))]) 3
    (fun _ => True) hit (fun r hr => by obtain ⟨c, _, rfl⟩ := List.mem_map.1 hr; rfl) (by kernel_rfl) (Sub.refl _) trivial ?_ ?_
  · intro i r hr _
    obtain ⟨c, hc, rfl⟩ := cas_get hr
    have hcl := List.mem_of_getElem? hc
    have g1 := h1 c hcl
    have g2 := h2 c hcl
    have g3 := h3 c hcl
    have g4 := h4 c hcl
    obtain ⟨⟨k1, k2⟩, ⟨t1, t2⟩, ⟨s1, s2⟩, ⟨f1, f2⟩⟩ := casL_mem.1 hcl
    obtain ⟨k, t, s, f⟩ := c
    simp only at k1 k2 t1 t2 s1 s2 f1 f2
    obtain ⟨fn, rfl⟩ : ∃ n : Nat, f = n := ⟨f.toNat, by omega⟩
    simp only [Int.toNat_natCast] at g1
    have hfg : (fl.map fcs)[fn]? = some (fcs (fl.getD fn (0, 0, 0, 0, 0, 0))) := by simp [List.getD_eq_getElem?_getD, show fn < fl.length by omega]
    have hls : leastF hf ((casL ts.length lo hi fl.length).take (i + 1)) 2 = if hf (k, t, s, (fn : Int)) < leastF hf ((casL ts.length lo hi fl.length).take i) 2 then hf (k, t, s, (fn : Int)) else leastF hf ((casL ts.length lo hi fl.length).take i) 2 := by
      rw [List.take_add_one, hc]; exact leastF_snoc _ _ _ _
    have h4' : k = 0 ∨ k = 1 ∨ k = 2 ∨ k = 3 := by omega
    show Awp cx _ ⟨(18, some (.val (dyn (CaX (k, t, s, (fn : Int)))))) :: _, _, _⟩ _ _ _
    rcases h4' with rfl | rfl | rfl | rfl
    all_goals
      (refine aR ?_; conv => whnf)
      repeat ((first | refine oP rfl ?_ | refine rP rfl (fun _ z => z) ?_ | (refine kO 3 rfl ?_; first | refine rLdb rfl rfl rfl rfl rfl rfl rfl ?_ | refine rG (fun _ z => z) ?_) | (refine kO 4 rfl ?_; refine rG (fun _ z => z) ?_) | (refine kO 5 rfl ?_; refine rIdvN rfl rfl rfl rfl rfl rfl (by assumption) rfl ?_) | (refine kO 7 rfl ?_; first | refine rG (fun _ z => ⟨_, g1, z⟩) ?_ | refine rG (fun _ z => ⟨_, g2, z⟩) ?_ | refine rG (fun _ z => ⟨_, g3, z⟩) ?_ | refine rG (fun _ z => ⟨_, g4, z⟩) ?_) | (refine kO 6 rfl ?_; refine rG (fun _ z => z) ?_) | refine oN ?_ | refine aR ?_ | refine aB ?_ | refine dI (by kernel_rfl) ?_ | refine rG (fun _ z => ⟨(by (omega)), z⟩) ?_); (try conv => whnf))
    all_goals exact ⟨trivial, canon_auto (by rw [hls]; kernel_rfl)⟩
  · intro _
    conv => whnf
    repeat ((first | refine oP rfl ?_ | refine rP rfl (fun _ z => z) ?_ | (refine kO 3 rfl ?_; refine rLdb rfl rfl rfl rfl rfl rfl rfl ?_) | refine oN ?_ | refine aS ?_ | refine aR ?_ | refine aT ?_); (try conv => whnf))
    rw [List.length_map, List.take_length]
    (done)
end
end Go.Proofs.Tryz
