/- Parts of the proof, joined. -/
import Derived.Test.YthelhkeoljcajaaGreatDoorSh
import Derived.Test.YthelhkeoljcajaaGreatDoorFe
import Derived.Test.YthelhkeoljcajaaGreatDoorP
import Derived.Test.YthelhkeoljcajaaGreatDoorWb
namespace Go.Proofs.Tryz
open Go.Fw Go.IntWalk Go.Plain
set_option maxRecDepth 100000
set_option maxHeartbeats 8000000
theorem gl_pow : (1, Lib.pow10Tab.map fun z => SC.lit (.int .u64 z)) ∈ cx.gl := List.mem_of_getElem? (i := 1) (by kernel_rfl)
theorem gl_max : (2, [SC.num .i64]) ∈ cx.gl := List.mem_of_getElem? (i := 2) (by kernel_rfl)
theorem gl_syn : (3, [SC.err]) ∈ cx.gl := List.mem_of_getElem? (i := 3) (by kernel_rfl)
theorem gl_rng : (4, [SC.err]) ∈ cx.gl := List.mem_of_getElem? (i := 4) (by kernel_rfl)
theorem itoa_sat (n : Int) (h : inI n) : Sat cx.P cx.gl 28 [I n] (.one (SS (Lib.itoa n))) := itoa_gen laysM171 (by kernel_rfl) (g := 1) (by kernel_rfl) gl_pow n h
theorem atoi_sat (s : List UInt8) (hl : s.length ≤ 1000000) {v : Int} (h : Lib.atoiAll s = .ok v) : Sat cx.P cx.gl 68 [SS s] (.tup [I v, (false, [.lit .nilIface])]) := atoi_ok laysC172 (by kernel_rfl) s hl h
theorem atoiBad_sat (s : List UInt8) (hl : s.length ≤ 1000000) (h : ∀ v, Lib.atoiAll s ≠ .ok v) : ∃ v, Sat cx.P cx.gl 68 [SS s] (.tup [I v, (false, [.err])]) := atoi_bad laysC172 (by kernel_rfl) gl_syn gl_rng s hl h
theorem cut2_sat (s : List UInt8) (c : UInt8) (hl : s.length ≤ 1000000) : Sat cx.P cx.gl 108 [SS s, SS [c]] (.tup [SS (Lib.cut s [c]).1, SS (Lib.cut s [c]).2.1, Bo (Lib.cut s [c]).2.2]) := cut_gen lays145 (by kernel_rfl) gl_max s c hl
theorem trimPrefix_sat (s p : List UInt8) : Sat cx.P cx.gl 69 [SS s, SS p] (.one (SS (Lib.trimPrefix s p))) := trimPrefix_gen lays101 (by kernel_rfl) s p
theorem split_sat (s : List UInt8) (c : UInt8) (hl : s.length ≤ 1000000) (hlen : (cutS s c).length = Lib.countB (B s) (B [c]) + 1) : Sat cx.P cx.gl 32 [SS s, SS [c]] (.own 1 (.view (strs (cutS s c)))) := split_gen lays146 (by kernel_rfl) (by kernel_rfl) gl_max s c hl hlen
theorem join_sat (l : List (List UInt8)) (c : UInt8) (hl : l.length ≤ 1000000) (hlen : (Lib.join l [c]).length ≤ 1000000000) : Sat cx.P cx.gl 29 [(false, [.view (strs l)]), SS [c]] (.one (SS (Lib.join l [c]))) := join_gen lays156 Builder_Extra_156 (by kernel_rfl) l c hl hlen
end Go.Proofs.Tryz

namespace Go.Proofs.Tryz
open Go.Fw Go.IntWalk Go.Plain
set_option maxRecDepth 100000
set_option maxHeartbeats 8000000
abbrev absI' (n : Int) : Int := if -n > n then -n else n
theorem bSize_t (n : Int) (h : -1000000 ≤ n ∧ n ≤ 1000000) : Sat cx.P cx.gl 77 [I n] (.one (I (n.natAbs : Nat))) := by
  have e : (if -n > n then -n else n) = ((n.natAbs : Nat) : Int) := by split <;> omega
  rw [← e]
  refine Sat_of_awp (fn := f77) cx_ok (by kernel_rfl) (by kernel_rfl) rfl (by kernel_rfl) (Nat.le_of_ble_eq_true rfl) ?_
  repeat ((first | refine oP rfl ?_ | refine rP rfl (fun _ z => z) ?_ | (refine kO 2 rfl ?_; refine rNeg rfl rfl (by omega) ?_) | (refine kO 6 rfl ?_; refine rG (fun _ z => z) ?_) | refine oN ?_ | refine aS ?_ | refine aR ?_ | refine aT ?_); (try conv => whnf))
  (done)
/-- The digits of a number, none of 0. -/
def dg0 (m : Int) : List UInt8 := if m.natAbs = 0 then [] else Lib.decDigits m.natAbs
theorem dg0_step {m : Int} (h : m ≠ 0) : dg0 m = dg0 (m.tdiv 10) ++ [UInt8.ofNat (48 + (m.tmod 10).natAbs)] := by
  have e1 : (m.tdiv 10).natAbs = m.natAbs / 10 := Int.natAbs_tdiv ..
  have e2 : (m.tmod 10).natAbs = m.natAbs % 10 := Int.natAbs_tmod ..
  unfold dg0
  rw [if_neg (by omega), e1, e2, Lib.decDigits]
  split
  · rename_i h
    rw [if_pos (by omega), Nat.mod_eq_of_lt h]; rfl
  · rw [if_neg (by omega)]
theorem dec_len (n : Int) (hn : inI n) : (Lib.decDigits n.natAbs).length ≤ 20 := by
  rw [Lib.decDigits_length]
  have h : n.natAbs < 10 ^ 20 := by
    obtain ⟨hn1, hn2⟩ := hn
    have : (10 : Nat) ^ 20 = 100000000000000000000 := by decide
    omega
  rcases Nat.lt_or_ge 20 (Lib.nDigits n.natAbs) with h1 | h1
  · exfalso
    have h2 : ∀ (k u : Nat), u < 10 ^ (k + 1) → Lib.nDigits u ≤ k + 1 := by
      intro k
      induction k with
      | zero => intro u hu; rw [Lib.nDigits_small (by omega)]; omega
      | succ k ih =>
        intro u hu
        by_cases hs : u < 10
        · rw [Lib.nDigits_small hs]; omega
        · rw [Lib.nDigits_big hs]
          have := ih (u / 10) (by rw [Nat.pow_succ] at hu; omega)
          omega
    have := h2 19 n.natAbs h
    omega
  · exact h1
theorem decimal_sat (n : Int) (hn : inI n) : Sat cx.P cx.gl 41 [I n] (.one (SS (Lib.itoa n))) := by
  have hlen := dec_len n hn
  by_cases h0 : n = 0
  · subst h0
    have e : Lib.itoa 0 = [48] := by show Lib.decDigits 0 = _; rw [Lib.decDigits_one (by omega)]; rfl
    rw [e]
    refine Sat_of_awp (fn := f41) cx_ok (by kernel_rfl) (by kernel_rfl) rfl (by kernel_rfl) (Nat.le_of_ble_eq_true rfl) ?_
    repeat ((first | refine oP rfl ?_ | refine rP rfl (fun _ z => z) ?_ | (refine kO 1 rfl ?_; refine rG (fun _ z => z) ?_) | refine oN ?_ | refine aS ?_ | refine aR ?_ | refine aT ?_ | refine aC rfl ?_ | refine bT ?_); (try conv => whnf))
    (rfl)
  · have hit : Lib.itoa n = (if n < 0 then [45] else []) ++ Lib.decDigits n.natAbs := by
      unfold Lib.itoa
      split
      · rfl
      · rw [show n.toNat = n.natAbs by omega]; rfl
    rw [hit]
    have hst : dg0 n ++ [] = Lib.decDigits n.natAbs := by unfold dg0; rw [if_neg (by omega), List.append_nil]
    generalize Lib.decDigits n.natAbs = D at *
    by_cases hneg : n < 0
    · rw [if_pos hneg]
      refine Sat_of_awp (fn := f41) cx_ok (by kernel_rfl) (by kernel_rfl) rfl (by kernel_rfl) (Nat.le_of_ble_eq_true rfl) ?_
      repeat ((first | refine oP rfl ?_ | refine rP rfl (fun _ z => z) ?_ | (refine kO 1 rfl ?_; refine rG (fun _ z => z) ?_) | refine oN ?_ | refine aS ?_ | refine aR ?_ | refine aK ?_ | refine aB ?_ | refine aC rfl ?_ | refine bPt (by omega) ?_ | refine bPf (by omega) ?_ | refine aL ?_); (try conv => whnf))
      refine loop_ind (ι := Int × List UInt8) (fun i => (inI i.1 ∧ i.2.length ≤ 20) ∧ dg0 i.1 ++ i.2 = D) (fun i => i.1.natAbs) (fun i => ⟨[(0, vI i.1), (3, lS i.2), (4, lS [45])], [], 0⟩) (n, []) (canon_auto (by kernel_rfl)) ⟨⟨hn, by simp⟩, hst⟩ ?_
      rintro ⟨m, s⟩ ⟨⟨⟨hm1, hm2⟩, hs⟩, hD⟩
      show Awp _ _ ⟨[(0, vI m), (3, lS s), (4, lS [45])], [], 0⟩ _ _ _
      simp only at hm1 hm2 hs hD
      by_cases hz : m = 0
      · subst hz
        have : s = D := by simpa [dg0] using hD
        subst this
        repeat ((first | refine oP rfl ?_ | refine rP rfl (fun _ z => z) ?_ | (refine kO 1 rfl ?_; first | refine rSCat rfl rfl rfl (by (simp; omega)) ?_ | refine rG (fun _ z => z) ?_) | refine oN ?_ | refine aS ?_ | refine aR ?_ | refine aX ?_ | refine aT ?_ | refine aC rfl ?_ | refine bF ?_); (try conv => whnf))
        (done)
      · have e1 : (m.tdiv 10).natAbs = m.natAbs / 10 := Int.natAbs_tdiv ..
        have e2 : (m.tmod 10).natAbs = m.natAbs % 10 := Int.natAbs_tmod ..
        have hw : IntKind.i64.wrap (m.tdiv 10) = m.tdiv 10 := cvI (by omega)
        have bz := bSize_t (m.tmod 10) (by omega)
        rw [dg0_step hz, List.append_assoc] at hD
        have hl2 := congrArg List.length hD
        simp only [List.length_append, List.length_cons, List.length_nil] at hl2
        repeat ((first | refine oP rfl ?_ | refine rConv rfl rfl rfl rfl rfl rfl (cv8 (by omega)) ?_ | refine rP rfl (fun _ z => z) ?_ | (refine kO 1 rfl ?_; first | refine rSCat rfl rfl rfl (by (simp; omega)) ?_ | refine rAdd rfl rfl rfl (by omega) ?_ | refine rQuo' rfl rfl rfl (by omega) ?_ | refine rRem' rfl rfl rfl (by omega) ?_ | refine rG (fun _ z => z) ?_) | (refine kO 7 rfl ?_; refine rG (fun _ z => ⟨_, bz, z⟩) ?_) | refine oN ?_ | refine aS ?_ | refine aR ?_ | refine aK ?_ | refine aB ?_ | refine aC rfl ?_ | refine bPt (by omega) ?_); (try conv => whnf))
        rw [hw]
        refine ⟨(m.tdiv 10, UInt8.ofNat (48 + (m.tmod 10).natAbs) :: s), ⟨⟨⟨by omega, by omega⟩, by simp only [List.length_cons]; omega⟩, hD⟩, by simp only; omega, canon_auto (by kernel_rfl)⟩
    · rw [if_neg hneg]
      refine Sat_of_awp (fn := f41) cx_ok (by kernel_rfl) (by kernel_rfl) rfl (by kernel_rfl) (Nat.le_of_ble_eq_true rfl) ?_
      repeat ((first | refine oP rfl ?_ | refine rP rfl (fun _ z => z) ?_ | (refine kO 1 rfl ?_; refine rG (fun _ z => z) ?_) | refine oN ?_ | refine aS ?_ | refine aR ?_ | refine aK ?_ | refine aB ?_ | refine aC rfl ?_ | refine bPf (by omega) ?_ | refine aL ?_); (try conv => whnf))
      refine loop_ind (ι := Int × List UInt8) (fun i => (inI i.1 ∧ i.2.length ≤ 20) ∧ dg0 i.1 ++ i.2 = D) (fun i => i.1.natAbs) (fun i => ⟨[(0, vI i.1), (3, lS i.2), (4, lS [])], [], 0⟩) (n, []) (canon_auto (by kernel_rfl)) ⟨⟨hn, by simp⟩, hst⟩ ?_
      rintro ⟨m, s⟩ ⟨⟨⟨hm1, hm2⟩, hs⟩, hD⟩
      show Awp _ _ ⟨[(0, vI m), (3, lS s), (4, lS [])], [], 0⟩ _ _ _
      simp only at hm1 hm2 hs hD
      by_cases hz : m = 0
      · subst hz
        have : s = D := by simpa [dg0] using hD
        subst this
        repeat ((first | refine oP rfl ?_ | refine rP rfl (fun _ z => z) ?_ | (refine kO 1 rfl ?_; first | refine rSCat rfl rfl rfl (by (simp; omega)) ?_ | refine rG (fun _ z => z) ?_) | refine oN ?_ | refine aS ?_ | refine aR ?_ | refine aX ?_ | refine aT ?_ | refine aC rfl ?_ | refine bF ?_); (try conv => whnf))
        (done)
      · have e1 : (m.tdiv 10).natAbs = m.natAbs / 10 := Int.natAbs_tdiv ..
        have e2 : (m.tmod 10).natAbs = m.natAbs % 10 := Int.natAbs_tmod ..
        have hw : IntKind.i64.wrap (m.tdiv 10) = m.tdiv 10 := cvI (by omega)
        have bz := bSize_t (m.tmod 10) (by omega)
        rw [dg0_step hz, List.append_assoc] at hD
        have hl2 := congrArg List.length hD
        simp only [List.length_append, List.length_cons, List.length_nil] at hl2
        repeat ((first | refine oP rfl ?_ | refine rConv rfl rfl rfl rfl rfl rfl (cv8 (by omega)) ?_ | refine rP rfl (fun _ z => z) ?_ | (refine kO 1 rfl ?_; first | refine rSCat rfl rfl rfl (by (simp; omega)) ?_ | refine rAdd rfl rfl rfl (by omega) ?_ | refine rQuo' rfl rfl rfl (by omega) ?_ | refine rRem' rfl rfl rfl (by omega) ?_ | refine rG (fun _ z => z) ?_) | (refine kO 7 rfl ?_; refine rG (fun _ z => ⟨_, bz, z⟩) ?_) | refine oN ?_ | refine aS ?_ | refine aR ?_ | refine aK ?_ | refine aB ?_ | refine aC rfl ?_ | refine bPt (by omega) ?_); (try conv => whnf))
        rw [hw]
        refine ⟨(m.tdiv 10, UInt8.ofNat (48 + (m.tmod 10).natAbs) :: s), ⟨⟨⟨by omega, by omega⟩, by simp only [List.length_cons]; omega⟩, hD⟩, by simp only; omega, canon_auto (by kernel_rfl)⟩
end Go.Proofs.Tryz

namespace Go.Proofs.Tryz
open Go.Fw Go.IntWalk Go.Plain
set_option maxRecDepth 100000
set_option maxHeartbeats 8000000
def numR (o : Option Int) : List SV := match o with
  | some n => [I n, Bo true]
  | none => [I 0, Bo false]
theorem number_sat (s : List UInt8) (d : Nat) (hd : d ≤ 18) (hl : s.length ≤ 1000000) : Sat cx.P cx.gl 38 [SS s, I d] (.tup (numR (numN d s))) := by
  have hle := atN_le s
  by_cases h45 : (s.getD 0 0).toNat = 45
  · have ea : atN s = 1 := by unfold atN; rw [if_pos h45]
    rw [ea] at hle
    unfold numN
    by_cases hb0 : badN d s
    · have hb : s.length = 1 ∨ d < s.length - 1 ∨ ((s.getD 1 0).toNat = 48 ∧ 1 < s.length) := by unfold badN at hb0; rw [ea] at hb0; exact hb0
      rw [if_pos hb0]
      unfold numR
      refine Sat_of_awp (fn := f38) cx_ok (by kernel_rfl) (by kernel_rfl) rfl (by kernel_rfl) (Nat.le_of_ble_eq_true rfl) ?_
      repeat' ((first | refine oP rfl ?_ | refine rP rfl (fun _ z => z) ?_ | (refine kO 1 rfl ?_; first | refine rSub rfl rfl rfl (by omega) ?_ | refine rG (fun _ z => z) ?_) | (refine kO 6 rfl ?_; refine rSLen rfl rfl rfl rfl rfl rfl ?_) | (refine kO 8 rfl ?_; refine rSIdx rfl rfl rfl rfl rfl (by omega) ?_) | refine oN ?_ | refine aS ?_ | refine aR ?_ | refine aT ?_ | refine aC rfl ?_ | refine bT ?_ | refine bPt (by omega) ?_ | refine oY rfl rfl rfl ?_ | refine oZ rfl rfl rfl ?_ | refine oO rfl rfl rfl ?_ | refine oIt rfl rfl rfl (by omega) ?_ | refine opsA_unlessp rfl rfl rfl (fun h => ?_) (fun h => ?_)) <;> (try conv => whnf))
      all_goals fail
    · have hb : ¬ (s.length = 1 ∨ d < s.length - 1 ∨ ((s.getD 1 0).toNat = 48 ∧ 1 < s.length)) := by unfold badN at hb0; rw [ea] at hb0; exact hb0
      rw [if_neg hb0, ea]
      have hz : ¬ (s.getD 1 0).toNat = 48 := by omega
      all_goals
       refine Sat_of_awp (fn := f38) cx_ok (by kernel_rfl) (by kernel_rfl) rfl (by kernel_rfl) (Nat.le_of_ble_eq_true rfl) ?_
       repeat ((first | refine oP rfl ?_ | refine rP rfl (fun _ z => z) ?_ | (refine kO 1 rfl ?_; first | refine rSub rfl rfl rfl (by omega) ?_ | refine rG (fun _ z => z) ?_) | (refine kO 6 rfl ?_; refine rSLen rfl rfl rfl rfl rfl rfl ?_) | (refine kO 8 rfl ?_; refine rSIdx rfl rfl rfl rfl rfl (by omega) ?_) | refine oN ?_ | refine aS ?_ | refine aR ?_ | refine aK ?_ | refine aB ?_ | refine aC rfl ?_ | refine bF ?_ | refine bPt (by omega) ?_ | refine aL ?_ | refine oY rfl rfl rfl ?_ | refine oZ rfl rfl rfl ?_ | refine oIt rfl rfl rfl (by omega) ?_ | refine oIf rfl rfl rfl (by omega) ?_ | refine oUf rfl rfl rfl (by omega) ?_); (try conv => whnf))
       refine loop_ind (ι := Nat) (fun i => (1 ≤ i ∧ i ≤ s.length) ∧ ∀ b ∈ (s.take i).drop 1, isDig b) (fun i => s.length - i) (fun i => ⟨[(0, lS s), (6, vI 1), (7, vI (digV 0 ((s.take i).drop 1) : Nat)), (8, vI i)], [], 0⟩) 1 (canon_auto (by rw [show (s.take 1).drop 1 = [] by simp]; kernel_rfl)) ⟨⟨Nat.le_refl _, hle⟩, by rw [show (s.take 1).drop 1 = [] by simp]; simp⟩ ?_
       rintro i ⟨⟨hi0, hi⟩, hdg⟩
       have hsm := digV_small hdg (by simp; omega)
       have hby : (s.getD i 0).toNat ≤ 255 := by have := (s.getD i 0).toNat_lt; omega
       by_cases hlt : i < s.length
       · by_cases hx : isDig (s.getD i 0)
         · have hsm7 := digV_small7 hdg (by simp; omega)
           have hv := digV_cut hi0 hlt hx
           have hdg' : ∀ b ∈ (s.take (i + 1)).drop 1, isDig b := by
             rw [cut_succ hi0 hlt]
             intro b hb'
             rcases List.mem_append.1 hb' with hb' | hb'
             · exact hdg b hb'
             · rw [List.mem_singleton] at hb'; subst hb'; exact hx
           unfold isDig at hx
           generalize digV 0 ((s.take i).drop 1) = v at *
           repeat ((first | refine oP rfl ?_ | refine rConv rfl rfl rfl rfl rfl rfl (cvI (by omega)) ?_ | refine rP rfl (fun _ z => z) ?_ | (refine kO 1 rfl ?_; first | refine rSub8 rfl rfl rfl (by omega) ?_ | refine rAdd rfl rfl rfl (by omega) ?_ | refine rMul rfl rfl rfl (by omega) ?_ | refine rG (fun _ z => z) ?_) | (refine kO 6 rfl ?_; refine rSLen rfl rfl rfl rfl rfl rfl ?_) | (refine kO 8 rfl ?_; refine rSIdx rfl rfl rfl rfl rfl (by omega) ?_) | refine oN ?_ | refine aS ?_ | refine aR ?_ | refine aK ?_ | refine aB ?_ | refine aC rfl ?_ | refine bPt (by omega) ?_ | refine bPf (by omega) ?_ | refine oY rfl rfl rfl ?_ | refine oUf rfl rfl rfl (by omega) ?_); (try conv => whnf))
           exact ⟨i + 1, ⟨⟨by omega, hlt⟩, hdg'⟩, by omega, canon_auto (by rw [hv]; kernel_rfl)⟩
         · have hno : ¬ ∀ b ∈ s.drop 1, isDig b := fun h => hx (h _ (by
             have e : s.getD i 0 = (s.drop 1).getD (i - 1) 0 := by
               simp only [List.getD_eq_getElem?_getD, List.getElem?_drop]
               rw [show 1 + (i - 1) = i by omega]
             rw [e]
             have : i - 1 < (s.drop 1).length := by simp; omega
             rw [List.getD_eq_getElem?_getD, List.getElem?_eq_getElem this]
             exact List.getElem_mem this))
           rw [if_neg hno]
           unfold isDig at hx
           generalize digV 0 ((s.take i).drop 1) = v at *
           repeat' ((first | refine oP rfl ?_ | refine rP rfl (fun _ z => z) ?_ | (refine kO 1 rfl ?_; refine rG (fun _ z => z) ?_) | (refine kO 6 rfl ?_; refine rSLen rfl rfl rfl rfl rfl rfl ?_) | (refine kO 8 rfl ?_; refine rSIdx rfl rfl rfl rfl rfl (by omega) ?_) | refine oN ?_ | refine aS ?_ | refine aR ?_ | refine aK ?_ | refine aB ?_ | refine aT ?_ | refine aC rfl ?_ | refine bT ?_ | refine bPt (by omega) ?_ | refine oY rfl rfl rfl ?_ | refine oZ rfl rfl rfl ?_ | refine opsA_unlessp rfl rfl rfl (fun h => ?_) (fun h => ?_)) <;> (try conv => whnf))
           all_goals (exact rfl)
       · obtain rfl : i = s.length := by omega
         rw [List.take_length] at hdg hsm ⊢
         rw [if_pos hdg]
         generalize digV 0 (s.drop 1) = v at *
         repeat ((first | refine oP rfl ?_ | refine rP rfl (fun _ z => z) ?_ | (refine kO 1 rfl ?_; refine rG (fun _ z => z) ?_) | (refine kO 2 rfl ?_; refine rNeg rfl rfl (by omega) ?_) | (refine kO 6 rfl ?_; refine rSLen rfl rfl rfl rfl rfl rfl ?_) | refine oN ?_ | refine aS ?_ | refine aR ?_ | refine aX ?_ | refine aT ?_ | refine aC rfl ?_ | refine bT ?_ | refine bPf (by omega) ?_); (try conv => whnf))
         (rfl)
  · have ea : atN s = 0 := by unfold atN; rw [if_neg h45]
    rw [ea] at hle
    unfold numN
    by_cases hb0 : badN d s
    · have hb : s.length = 0 ∨ d < s.length - 0 ∨ ((s.getD 0 0).toNat = 48 ∧ 1 < s.length) := by unfold badN at hb0; rw [ea] at hb0; exact hb0
      rw [if_pos hb0]
      unfold numR
      refine Sat_of_awp (fn := f38) cx_ok (by kernel_rfl) (by kernel_rfl) rfl (by kernel_rfl) (Nat.le_of_ble_eq_true rfl) ?_
      repeat' ((first | refine oP rfl ?_ | refine rP rfl (fun _ z => z) ?_ | (refine kO 1 rfl ?_; first | refine rSub rfl rfl rfl (by omega) ?_ | refine rG (fun _ z => z) ?_) | (refine kO 6 rfl ?_; refine rSLen rfl rfl rfl rfl rfl rfl ?_) | (refine kO 8 rfl ?_; refine rSIdx rfl rfl rfl rfl rfl (by omega) ?_) | refine oN ?_ | refine aS ?_ | refine aR ?_ | refine aK ?_ | refine aT ?_ | refine aC rfl ?_ | refine bT ?_ | refine bF ?_ | refine bPt (by omega) ?_ | refine bPf (by omega) ?_ | refine oY rfl rfl rfl ?_ | refine oZ rfl rfl rfl ?_ | refine oO rfl rfl rfl ?_ | refine oIt rfl rfl rfl (by omega) ?_ | refine oUt rfl rfl rfl (by omega) ?_ | refine oUf rfl rfl rfl (by omega) ?_ | refine opsA_ifp rfl rfl rfl (fun h => ?_) (fun h => ?_) | refine opsA_unlessp rfl rfl rfl (fun h => ?_) (fun h => ?_)) <;> (try conv => whnf))
      all_goals fail
    · have hb : ¬ (s.length = 0 ∨ d < s.length - 0 ∨ ((s.getD 0 0).toNat = 48 ∧ 1 < s.length)) := by unfold badN at hb0; rw [ea] at hb0; exact hb0
      rw [if_neg hb0, ea]
      rcases Classical.em ((s.getD 0 0).toNat = 48) with hz | hz
      all_goals
       refine Sat_of_awp (fn := f38) cx_ok (by kernel_rfl) (by kernel_rfl) rfl (by kernel_rfl) (Nat.le_of_ble_eq_true rfl) ?_
       repeat ((first | refine oP rfl ?_ | refine rP rfl (fun _ z => z) ?_ | (refine kO 1 rfl ?_; first | refine rSub rfl rfl rfl (by omega) ?_ | refine rG (fun _ z => z) ?_) | (refine kO 6 rfl ?_; refine rSLen rfl rfl rfl rfl rfl rfl ?_) | (refine kO 8 rfl ?_; refine rSIdx rfl rfl rfl rfl rfl (by omega) ?_) | refine oN ?_ | refine aS ?_ | refine aR ?_ | refine aK ?_ | refine aB ?_ | refine aC rfl ?_ | refine bF ?_ | refine bPf (by omega) ?_ | refine aL ?_ | refine oY rfl rfl rfl ?_ | refine oZ rfl rfl rfl ?_ | refine oIt rfl rfl rfl (by omega) ?_ | refine oIf rfl rfl rfl (by omega) ?_ | refine oUf rfl rfl rfl (by omega) ?_); (try conv => whnf))
       refine loop_ind (ι := Nat) (fun i => (0 ≤ i ∧ i ≤ s.length) ∧ ∀ b ∈ (s.take i).drop 0, isDig b) (fun i => s.length - i) (fun i => ⟨[(0, lS s), (6, vI 0), (7, vI (digV 0 ((s.take i).drop 0) : Nat)), (8, vI i)], [], 0⟩) 0 (canon_auto (by rw [show (s.take 0).drop 0 = [] by simp]; kernel_rfl)) ⟨⟨Nat.le_refl _, hle⟩, by rw [show (s.take 0).drop 0 = [] by simp]; simp⟩ ?_
       rintro i ⟨⟨hi0, hi⟩, hdg⟩
       have hsm := digV_small hdg (by simp; omega)
       have hby : (s.getD i 0).toNat ≤ 255 := by have := (s.getD i 0).toNat_lt; omega
       by_cases hlt : i < s.length
       · by_cases hx : isDig (s.getD i 0)
         · have hsm7 := digV_small7 hdg (by simp; omega)
           have hv := digV_cut hi0 hlt hx
           have hdg' : ∀ b ∈ (s.take (i + 1)).drop 0, isDig b := by
             rw [cut_succ hi0 hlt]
             intro b hb'
             rcases List.mem_append.1 hb' with hb' | hb'
             · exact hdg b hb'
             · rw [List.mem_singleton] at hb'; subst hb'; exact hx
           unfold isDig at hx
           generalize digV 0 ((s.take i).drop 0) = v at *
           repeat ((first | refine oP rfl ?_ | refine rConv rfl rfl rfl rfl rfl rfl (cvI (by omega)) ?_ | refine rP rfl (fun _ z => z) ?_ | (refine kO 1 rfl ?_; first | refine rSub8 rfl rfl rfl (by omega) ?_ | refine rAdd rfl rfl rfl (by omega) ?_ | refine rMul rfl rfl rfl (by omega) ?_ | refine rG (fun _ z => z) ?_) | (refine kO 6 rfl ?_; refine rSLen rfl rfl rfl rfl rfl rfl ?_) | (refine kO 8 rfl ?_; refine rSIdx rfl rfl rfl rfl rfl (by omega) ?_) | refine oN ?_ | refine aS ?_ | refine aR ?_ | refine aK ?_ | refine aB ?_ | refine aC rfl ?_ | refine bPt (by omega) ?_ | refine bPf (by omega) ?_ | refine oY rfl rfl rfl ?_ | refine oUf rfl rfl rfl (by omega) ?_); (try conv => whnf))
           exact ⟨i + 1, ⟨⟨by omega, hlt⟩, hdg'⟩, by omega, canon_auto (by rw [hv]; kernel_rfl)⟩
         · have hno : ¬ ∀ b ∈ s.drop 0, isDig b := fun h => hx (h _ (by
             have e : s.getD i 0 = (s.drop 0).getD (i - 0) 0 := by
               simp only [List.getD_eq_getElem?_getD, List.getElem?_drop]
               rw [show 0 + (i - 0) = i by omega]
             rw [e]
             have : i - 0 < (s.drop 0).length := by simp; omega
             rw [List.getD_eq_getElem?_getD, List.getElem?_eq_getElem this]
             exact List.getElem_mem this))
           rw [if_neg hno]
           unfold isDig at hx
           generalize digV 0 ((s.take i).drop 0) = v at *
           repeat' ((first | refine oP rfl ?_ | refine rP rfl (fun _ z => z) ?_ | (refine kO 1 rfl ?_; refine rG (fun _ z => z) ?_) | (refine kO 6 rfl ?_; refine rSLen rfl rfl rfl rfl rfl rfl ?_) | (refine kO 8 rfl ?_; refine rSIdx rfl rfl rfl rfl rfl (by omega) ?_) | refine oN ?_ | refine aS ?_ | refine aR ?_ | refine aK ?_ | refine aB ?_ | refine aT ?_ | refine aC rfl ?_ | refine bT ?_ | refine bPt (by omega) ?_ | refine oY rfl rfl rfl ?_ | refine oZ rfl rfl rfl ?_ | refine opsA_unlessp rfl rfl rfl (fun h => ?_) (fun h => ?_)) <;> (try conv => whnf))
           all_goals (exact rfl)
       · obtain rfl : i = s.length := by omega
         rw [List.take_length] at hdg hsm ⊢
         rw [if_pos hdg]
         generalize digV 0 (s.drop 0) = v at *
         repeat ((first | refine oP rfl ?_ | refine rP rfl (fun _ z => z) ?_ | (refine kO 1 rfl ?_; refine rG (fun _ z => z) ?_) | (refine kO 6 rfl ?_; refine rSLen rfl rfl rfl rfl rfl rfl ?_) | refine oN ?_ | refine aS ?_ | refine aR ?_ | refine aK ?_ | refine aX ?_ | refine aT ?_ | refine aC rfl ?_ | refine bF ?_ | refine bPf (by omega) ?_); (try conv => whnf))
         (rfl)
end Go.Proofs.Tryz

namespace Go.Proofs.Tryz
open Go.Fw Go.IntWalk Go.Plain
set_option maxRecDepth 100000
set_option maxHeartbeats 8000000
theorem strs_snoc (l : List (List UInt8)) (x : List UInt8) : strs (l ++ [x]) = strs l ++ [[.lit (.string (B x))]] := by simp
theorem strs_len (l : List (List UInt8)) : (strs l).length = l.length := by simp
theorem strs_uni (l : List (List UInt8)) (x : List UInt8) : (SC.view (strs l ++ [[.lit (.string (B x))]])).uni 1 := by
  intro e he
  rcases List.mem_append.1 he with he | he
  · obtain ⟨w, _, rfl⟩ := List.mem_map.1 he
    rfl
  · rw [List.mem_singleton] at he; subst he; rfl
theorem cut_sat (s : List UInt8) (c : UInt8) (hl : s.length ≤ 1000000) : Sat cx.P cx.gl 37 [SS s, (false, [.lit (.int .u8 (c.toNat : Nat))])] (.own 1 (.view (strs (cutR s c.toNat)))) := by
  refine Sat_of_awp (fn := f37) cx_ok (by kernel_rfl) (by kernel_rfl) rfl (by kernel_rfl) (Nat.le_of_ble_eq_true rfl) ?_
  repeat ((first | refine oP rfl ?_ | refine rConv rfl rfl rfl rfl rfl rfl (cvI (by omega)) ?_ | refine rConv rfl rfl rfl rfl rfl rfl (cv8 (by omega)) ?_ | refine rP rfl (fun _ z => z) ?_ | (refine kO 1 rfl ?_; first | refine rSCat rfl rfl rfl (by first | omega | (simp; omega) | (simp only [List.length_append, List.length_cons, List.length_nil]; omega) | decide) ?_ | refine rSEq rfl rfl rfl ?_ | refine rSNe rfl rfl rfl ?_ | refine rSub8 rfl rfl rfl (by omega) ?_ | refine rAdd rfl rfl rfl (by omega) ?_ | refine rSub rfl rfl rfl (by omega) ?_ | refine rMul rfl rfl rfl (by omega) ?_ | refine rQuo rfl rfl rfl (by omega) ?_ | refine rRem rfl rfl rfl (by omega) ?_ | refine rQuo' rfl rfl rfl (by omega) ?_ | refine rRem' rfl rfl rfl (by omega) ?_ | refine rG (fun _ z => z) ?_) | (refine kO 2 rfl ?_; first | refine rNeg rfl rfl (by omega) ?_ | refine rG (fun _ z => z) ?_) | (refine kO 3 rfl ?_; first | refine rLdr rfl rfl rfl rfl rfl ?_ | refine rLdb rfl rfl rfl rfl rfl rfl rfl ?_ | refine rLdi rfl rfl rfl rfl rfl rfl (by first | omega | decide | exact Nat.le_of_ble_eq_true rfl | (dsimp only [SC.len]; omega) | (simp; done) | (simp; omega) | omega) ?_ | refine rG (fun _ z => z) ?_ | refine rG (fun _ z => ⟨_, rfl, z⟩) ?_) | (refine kO 4 rfl ?_; first | refine rSti rfl rfl rfl rfl rfl rfl (by first | omega | decide | exact Nat.le_of_ble_eq_true rfl | (dsimp only [SC.len]; omega) | (simp; done) | (simp; omega) | omega) ?_ | refine rG (fun _ z => z) ?_) | (refine kO 5 rfl ?_; first | refine rIdN rfl rfl rfl rfl rfl rfl rfl (by first | omega | decide | exact Nat.le_of_ble_eq_true rfl | (dsimp only [SC.len]; omega) | (simp; done) | (simp; omega) | omega) ?_ | refine rIdx rfl rfl rfl rfl rfl rfl rfl (by first | omega | decide | exact Nat.le_of_ble_eq_true rfl | (dsimp only [SC.len]; omega) | (simp; done) | (simp; omega) | omega) ?_ | refine rIdoN rfl rfl rfl rfl rfl rfl rfl rfl (by first | omega | decide | exact Nat.le_of_ble_eq_true rfl | (dsimp only [SC.len]; omega) | (simp; done) | (simp; omega) | omega) ?_ | refine rIdo rfl rfl rfl rfl rfl rfl rfl rfl (by first | omega | decide | exact Nat.le_of_ble_eq_true rfl | (dsimp only [SC.len]; omega) | (simp; done) | (simp; omega) | omega) ?_ | refine rIdvN rfl rfl rfl rfl rfl rfl (by first | assumption | rfl) rfl ?_) | (refine kO 6 rfl ?_; first | refine rSLen rfl rfl rfl rfl rfl rfl ?_ | refine rLen rfl rfl rfl rfl rfl rfl ?_ | refine rLenv rfl rfl rfl rfl rfl rfl ?_ | refine rLeno rfl rfl rfl rfl rfl rfl rfl ?_ | refine rLenov rfl rfl rfl rfl rfl rfl rfl ?_ | refine rG (fun _ z => z) ?_) | (refine kO 8 rfl ?_; first | refine rSIdx rfl rfl rfl rfl rfl (by first | omega | (simp; omega) | (simp only [List.length_append, List.length_cons, List.length_nil]; omega) | decide) ?_ | refine rSSlB rfl rfl rfl rfl rfl rfl (by first | omega | (simp; omega) | (simp only [List.length_append, List.length_cons, List.length_nil]; omega) | decide) ?_ | refine rSSlL rfl rfl rfl rfl rfl (by first | omega | (simp; omega) | (simp only [List.length_append, List.length_cons, List.length_nil]; omega) | decide) ?_ | refine rSSlH rfl rfl rfl rfl rfl (by first | omega | (simp; omega) | (simp only [List.length_append, List.length_cons, List.length_nil]; omega) | decide) ?_ | refine rSlH rfl rfl rfl rfl rfl rfl rfl (by omega) ?_ | refine rSlL rfl rfl rfl rfl rfl rfl rfl (by omega) ?_ | refine rG (fun _ z => z) ?_) | refine oN ?_ | refine aS ?_ | refine aR ?_ | refine aK ?_ | refine aX ?_ | refine aB ?_ | refine aT ?_ | refine aC rfl ?_ | refine bT ?_ | refine bF ?_ | refine bPt (by omega) ?_ | refine bPf (by omega) ?_ | refine aL ?_ | refine aE ?_ | refine oY rfl rfl rfl ?_ | refine oZ rfl rfl rfl ?_ | refine oO rfl rfl rfl ?_ | refine oIt rfl rfl rfl (by omega) ?_ | refine oIf rfl rfl rfl (by omega) ?_ | refine oUt rfl rfl rfl (by omega) ?_ | refine oUf rfl rfl rfl (by omega) ?_ | refine dI (by kernel_rfl) ?_ | refine rG (fun _ z => ⟨(by (first | omega | decide | rfl | exact lnS (by omega) | exact lnN (by decide) | exact lnN (by omega) | exact lnC (by omega) | exact lvS (by omega) | exact lvN (by decide) | exact lvC (by omega) | exact uvS rfl | exact uvN rfl | ((try unfold SC.len); (try unfold SC.uni); (try unfold LIM); (try simp); (try omega); done) | omega)), z⟩) ?_ | refine rG (fun _ z => ⟨(by (first | omega | decide | rfl | exact lnS (by omega) | exact lnN (by decide) | exact lnN (by omega) | exact lnC (by omega) | exact lvS (by omega) | exact lvN (by decide) | exact lvC (by omega) | exact uvS rfl | exact uvN rfl | ((try unfold SC.len); (try unfold SC.uni); (try unfold LIM); (try simp); (try omega); done) | omega)), (by (first | omega | decide | rfl | exact lnS (by omega) | exact lnN (by decide) | exact lnN (by omega) | exact lnC (by omega) | exact lvS (by omega) | exact lvN (by decide) | exact lvC (by omega) | exact uvS rfl | exact uvN rfl | ((try unfold SC.len); (try unfold SC.uni); (try unfold LIM); (try simp); (try omega); done) | omega)), z⟩) ?_); (try conv => whnf))
  refine loop_ind (ι := Nat) (fun i => i ≤ s.length) (fun i => s.length - i) (fun i => ⟨[(0, lS s), (1, some (lit (.int .u8 (c.toNat : Nat)))), (5, pO 0), (6, vI (cutP s c.toNat i).2), (7, vI i)], [(0, some (.row true 1 (.view (strs (cutP s c.toNat i).1))))], 1⟩) 0 (Sub.trans (nil_sub 5 1 (.view []) (by decide) rfl rfl rfl) (canon_auto (by kernel_rfl))) (Nat.zero_le _) ?_
  intro i hi
  obtain ⟨h1, h2⟩ := cutP_le s c.toNat i
  have h3 := strs_len (cutP s c.toNat i).1
  by_cases hlt : i < s.length
  · by_cases hx : (s.getD i 0).toNat = c.toNat
    · have e : cutP s c.toNat (i + 1) = ((cutP s c.toNat i).1 ++ [(s.take i).drop (cutP s c.toNat i).2], i + 1) := by
        show (if (s.getD i 0).toNat = c.toNat then _ else _) = _
        rw [if_pos hx]
      have e2 := strs_snoc (cutP s c.toNat i).1 ((s.take i).drop (cutP s c.toNat i).2)
      have u := strs_uni (cutP s c.toNat i).1 ((s.take i).drop (cutP s c.toNat i).2)
      generalize cutP s c.toNat i = P at *
      repeat ((first | refine oP rfl ?_ | refine rConv rfl rfl rfl rfl rfl rfl (cvI (by omega)) ?_ | refine rConv rfl rfl rfl rfl rfl rfl (cv8 (by omega)) ?_ | refine rP rfl (fun _ z => z) ?_ | (refine kO 1 rfl ?_; first | refine rSCat rfl rfl rfl (by first | omega | (simp; omega) | (simp only [List.length_append, List.length_cons, List.length_nil]; omega) | decide) ?_ | refine rSEq rfl rfl rfl ?_ | refine rSNe rfl rfl rfl ?_ | refine rSub8 rfl rfl rfl (by omega) ?_ | refine rAdd rfl rfl rfl (by omega) ?_ | refine rSub rfl rfl rfl (by omega) ?_ | refine rMul rfl rfl rfl (by omega) ?_ | refine rQuo rfl rfl rfl (by omega) ?_ | refine rRem rfl rfl rfl (by omega) ?_ | refine rQuo' rfl rfl rfl (by omega) ?_ | refine rRem' rfl rfl rfl (by omega) ?_ | refine rG (fun _ z => z) ?_) | (refine kO 2 rfl ?_; first | refine rNeg rfl rfl (by omega) ?_ | refine rG (fun _ z => z) ?_) | (refine kO 3 rfl ?_; first | refine rLdr rfl rfl rfl rfl rfl ?_ | refine rLdb rfl rfl rfl rfl rfl rfl rfl ?_ | refine rLdi rfl rfl rfl rfl rfl rfl (by first | omega | decide | exact Nat.le_of_ble_eq_true rfl | (dsimp only [SC.len]; omega) | (simp; done) | (simp; omega) | omega) ?_ | refine rG (fun _ z => z) ?_ | refine rG (fun _ z => ⟨_, rfl, z⟩) ?_) | (refine kO 4 rfl ?_; first | refine rSti rfl rfl rfl rfl rfl rfl (by first | omega | decide | exact Nat.le_of_ble_eq_true rfl | (dsimp only [SC.len]; omega) | (simp; done) | (simp; omega) | omega) ?_ | refine rG (fun _ z => z) ?_) | (refine kO 5 rfl ?_; first | refine rIdN rfl rfl rfl rfl rfl rfl rfl (by first | omega | decide | exact Nat.le_of_ble_eq_true rfl | (dsimp only [SC.len]; omega) | (simp; done) | (simp; omega) | omega) ?_ | refine rIdx rfl rfl rfl rfl rfl rfl rfl (by first | omega | decide | exact Nat.le_of_ble_eq_true rfl | (dsimp only [SC.len]; omega) | (simp; done) | (simp; omega) | omega) ?_ | refine rIdoN rfl rfl rfl rfl rfl rfl rfl rfl (by first | omega | decide | exact Nat.le_of_ble_eq_true rfl | (dsimp only [SC.len]; omega) | (simp; done) | (simp; omega) | omega) ?_ | refine rIdo rfl rfl rfl rfl rfl rfl rfl rfl (by first | omega | decide | exact Nat.le_of_ble_eq_true rfl | (dsimp only [SC.len]; omega) | (simp; done) | (simp; omega) | omega) ?_ | refine rIdvN rfl rfl rfl rfl rfl rfl (by first | assumption | rfl) rfl ?_) | (refine kO 6 rfl ?_; first | refine rSLen rfl rfl rfl rfl rfl rfl ?_ | refine rLen rfl rfl rfl rfl rfl rfl ?_ | refine rLenv rfl rfl rfl rfl rfl rfl ?_ | refine rLeno rfl rfl rfl rfl rfl rfl rfl ?_ | refine rLenov rfl rfl rfl rfl rfl rfl rfl ?_ | refine rG (fun _ z => z) ?_) | (refine kO 8 rfl ?_; first | refine rSIdx rfl rfl rfl rfl rfl (by first | omega | (simp; omega) | (simp only [List.length_append, List.length_cons, List.length_nil]; omega) | decide) ?_ | refine rSSlB rfl rfl rfl rfl rfl rfl (by first | omega | (simp; omega) | (simp only [List.length_append, List.length_cons, List.length_nil]; omega) | decide) ?_ | refine rSSlL rfl rfl rfl rfl rfl (by first | omega | (simp; omega) | (simp only [List.length_append, List.length_cons, List.length_nil]; omega) | decide) ?_ | refine rSSlH rfl rfl rfl rfl rfl (by first | omega | (simp; omega) | (simp only [List.length_append, List.length_cons, List.length_nil]; omega) | decide) ?_ | refine rSlH rfl rfl rfl rfl rfl rfl rfl (by omega) ?_ | refine rSlL rfl rfl rfl rfl rfl rfl rfl (by omega) ?_ | refine rG (fun _ z => z) ?_) | refine oN ?_ | refine aS ?_ | refine aR ?_ | refine aK ?_ | refine aX ?_ | refine aB ?_ | refine aT ?_ | refine aC rfl ?_ | refine bT ?_ | refine bF ?_ | refine bPt (by omega) ?_ | refine bPf (by omega) ?_ | refine aL ?_ | refine aE ?_ | refine oY rfl rfl rfl ?_ | refine oZ rfl rfl rfl ?_ | refine oO rfl rfl rfl ?_ | refine oIt rfl rfl rfl (by omega) ?_ | refine oIf rfl rfl rfl (by omega) ?_ | refine oUt rfl rfl rfl (by omega) ?_ | refine oUf rfl rfl rfl (by omega) ?_ | refine dI (by kernel_rfl) ?_ | refine rG (fun _ z => ⟨(by (first | omega | decide | rfl | exact lnS (by omega) | exact lnN (by decide) | exact lnN (by omega) | exact lnC (by omega) | exact lvS (by omega) | exact lvN (by decide) | exact lvC (by omega) | exact uvS rfl | exact uvN rfl | ((try unfold SC.len); (try unfold SC.uni); (try unfold LIM); (try simp); (try omega); done) | omega)), z⟩) ?_ | refine rG (fun _ z => ⟨(by (first | omega | decide | rfl | exact lnS (by omega) | exact lnN (by decide) | exact lnN (by omega) | exact lnC (by omega) | exact lvS (by omega) | exact lvN (by decide) | exact lvC (by omega) | exact uvS rfl | exact uvN rfl | ((try unfold SC.len); (try unfold SC.uni); (try unfold LIM); (try simp); (try omega); done) | omega)), (by (first | omega | decide | rfl | exact lnS (by omega) | exact lnN (by decide) | exact lnN (by omega) | exact lnC (by omega) | exact lvS (by omega) | exact lvN (by decide) | exact lvC (by omega) | exact uvS rfl | exact uvN rfl | ((try unfold SC.len); (try unfold SC.uni); (try unfold LIM); (try simp); (try omega); done) | omega)), z⟩) ?_); (try conv => whnf))
      exact ⟨i + 1, hlt, by omega, canon_auto (by rw [e]; dsimp only; rw [e2]; kernel_rfl)⟩
    · have e : cutP s c.toNat (i + 1) = cutP s c.toNat i := by
        show (if (s.getD i 0).toNat = c.toNat then _ else _) = _
        rw [if_neg hx]
      generalize cutP s c.toNat i = P at *
      repeat ((first | refine oP rfl ?_ | refine rConv rfl rfl rfl rfl rfl rfl (cvI (by omega)) ?_ | refine rConv rfl rfl rfl rfl rfl rfl (cv8 (by omega)) ?_ | refine rP rfl (fun _ z => z) ?_ | (refine kO 1 rfl ?_; first | refine rSCat rfl rfl rfl (by first | omega | (simp; omega) | (simp only [List.length_append, List.length_cons, List.length_nil]; omega) | decide) ?_ | refine rSEq rfl rfl rfl ?_ | refine rSNe rfl rfl rfl ?_ | refine rSub8 rfl rfl rfl (by omega) ?_ | refine rAdd rfl rfl rfl (by omega) ?_ | refine rSub rfl rfl rfl (by omega) ?_ | refine rMul rfl rfl rfl (by omega) ?_ | refine rQuo rfl rfl rfl (by omega) ?_ | refine rRem rfl rfl rfl (by omega) ?_ | refine rQuo' rfl rfl rfl (by omega) ?_ | refine rRem' rfl rfl rfl (by omega) ?_ | refine rG (fun _ z => z) ?_) | (refine kO 2 rfl ?_; first | refine rNeg rfl rfl (by omega) ?_ | refine rG (fun _ z => z) ?_) | (refine kO 3 rfl ?_; first | refine rLdr rfl rfl rfl rfl rfl ?_ | refine rLdb rfl rfl rfl rfl rfl rfl rfl ?_ | refine rLdi rfl rfl rfl rfl rfl rfl (by first | omega | decide | exact Nat.le_of_ble_eq_true rfl | (dsimp only [SC.len]; omega) | (simp; done) | (simp; omega) | omega) ?_ | refine rG (fun _ z => z) ?_ | refine rG (fun _ z => ⟨_, rfl, z⟩) ?_) | (refine kO 4 rfl ?_; first | refine rSti rfl rfl rfl rfl rfl rfl (by first | omega | decide | exact Nat.le_of_ble_eq_true rfl | (dsimp only [SC.len]; omega) | (simp; done) | (simp; omega) | omega) ?_ | refine rG (fun _ z => z) ?_) | (refine kO 5 rfl ?_; first | refine rIdN rfl rfl rfl rfl rfl rfl rfl (by first | omega | decide | exact Nat.le_of_ble_eq_true rfl | (dsimp only [SC.len]; omega) | (simp; done) | (simp; omega) | omega) ?_ | refine rIdx rfl rfl rfl rfl rfl rfl rfl (by first | omega | decide | exact Nat.le_of_ble_eq_true rfl | (dsimp only [SC.len]; omega) | (simp; done) | (simp; omega) | omega) ?_ | refine rIdoN rfl rfl rfl rfl rfl rfl rfl rfl (by first | omega | decide | exact Nat.le_of_ble_eq_true rfl | (dsimp only [SC.len]; omega) | (simp; done) | (simp; omega) | omega) ?_ | refine rIdo rfl rfl rfl rfl rfl rfl rfl rfl (by first | omega | decide | exact Nat.le_of_ble_eq_true rfl | (dsimp only [SC.len]; omega) | (simp; done) | (simp; omega) | omega) ?_ | refine rIdvN rfl rfl rfl rfl rfl rfl (by first | assumption | rfl) rfl ?_) | (refine kO 6 rfl ?_; first | refine rSLen rfl rfl rfl rfl rfl rfl ?_ | refine rLen rfl rfl rfl rfl rfl rfl ?_ | refine rLenv rfl rfl rfl rfl rfl rfl ?_ | refine rLeno rfl rfl rfl rfl rfl rfl rfl ?_ | refine rLenov rfl rfl rfl rfl rfl rfl rfl ?_ | refine rG (fun _ z => z) ?_) | (refine kO 8 rfl ?_; first | refine rSIdx rfl rfl rfl rfl rfl (by first | omega | (simp; omega) | (simp only [List.length_append, List.length_cons, List.length_nil]; omega) | decide) ?_ | refine rSSlB rfl rfl rfl rfl rfl rfl (by first | omega | (simp; omega) | (simp only [List.length_append, List.length_cons, List.length_nil]; omega) | decide) ?_ | refine rSSlL rfl rfl rfl rfl rfl (by first | omega | (simp; omega) | (simp only [List.length_append, List.length_cons, List.length_nil]; omega) | decide) ?_ | refine rSSlH rfl rfl rfl rfl rfl (by first | omega | (simp; omega) | (simp only [List.length_append, List.length_cons, List.length_nil]; omega) | decide) ?_ | refine rSlH rfl rfl rfl rfl rfl rfl rfl (by omega) ?_ | refine rSlL rfl rfl rfl rfl rfl rfl rfl (by omega) ?_ | refine rG (fun _ z => z) ?_) | refine oN ?_ | refine aS ?_ | refine aR ?_ | refine aK ?_ | refine aX ?_ | refine aB ?_ | refine aT ?_ | refine aC rfl ?_ | refine bT ?_ | refine bF ?_ | refine bPt (by omega) ?_ | refine bPf (by omega) ?_ | refine aL ?_ | refine aE ?_ | refine oY rfl rfl rfl ?_ | refine oZ rfl rfl rfl ?_ | refine oO rfl rfl rfl ?_ | refine oIt rfl rfl rfl (by omega) ?_ | refine oIf rfl rfl rfl (by omega) ?_ | refine oUt rfl rfl rfl (by omega) ?_ | refine oUf rfl rfl rfl (by omega) ?_ | refine dI (by kernel_rfl) ?_ | refine rG (fun _ z => ⟨(by (first | omega | decide | rfl | exact lnS (by omega) | exact lnN (by decide) | exact lnN (by omega) | exact lnC (by omega) | exact lvS (by omega) | exact lvN (by decide) | exact lvC (by omega) | exact uvS rfl | exact uvN rfl | ((try unfold SC.len); (try unfold SC.uni); (try unfold LIM); (try simp); (try omega); done) | omega)), z⟩) ?_ | refine rG (fun _ z => ⟨(by (first | omega | decide | rfl | exact lnS (by omega) | exact lnN (by decide) | exact lnN (by omega) | exact lnC (by omega) | exact lvS (by omega) | exact lvN (by decide) | exact lvC (by omega) | exact uvS rfl | exact uvN rfl | ((try unfold SC.len); (try unfold SC.uni); (try unfold LIM); (try simp); (try omega); done) | omega)), (by (first | omega | decide | rfl | exact lnS (by omega) | exact lnN (by decide) | exact lnN (by omega) | exact lnC (by omega) | exact lvS (by omega) | exact lvN (by decide) | exact lvC (by omega) | exact uvS rfl | exact uvN rfl | ((try unfold SC.len); (try unfold SC.uni); (try unfold LIM); (try simp); (try omega); done) | omega)), z⟩) ?_); (try conv => whnf))
      exact ⟨i + 1, hlt, by omega, canon_auto (by rw [e]; kernel_rfl)⟩
  · obtain rfl : i = s.length := by omega
    unfold cutR
    have e2 := strs_snoc (cutP s c.toNat s.length).1 (s.drop (cutP s c.toNat s.length).2)
    have u := strs_uni (cutP s c.toNat s.length).1 (s.drop (cutP s c.toNat s.length).2)
    rw [e2]
    generalize cutP s c.toNat s.length = P at *
    repeat ((first | refine oP rfl ?_ | refine rConv rfl rfl rfl rfl rfl rfl (cvI (by omega)) ?_ | refine rConv rfl rfl rfl rfl rfl rfl (cv8 (by omega)) ?_ | refine rP rfl (fun _ z => z) ?_ | (refine kO 1 rfl ?_; first | refine rSCat rfl rfl rfl (by first | omega | (simp; omega) | (simp only [List.length_append, List.length_cons, List.length_nil]; omega) | decide) ?_ | refine rSEq rfl rfl rfl ?_ | refine rSNe rfl rfl rfl ?_ | refine rSub8 rfl rfl rfl (by omega) ?_ | refine rAdd rfl rfl rfl (by omega) ?_ | refine rSub rfl rfl rfl (by omega) ?_ | refine rMul rfl rfl rfl (by omega) ?_ | refine rQuo rfl rfl rfl (by omega) ?_ | refine rRem rfl rfl rfl (by omega) ?_ | refine rQuo' rfl rfl rfl (by omega) ?_ | refine rRem' rfl rfl rfl (by omega) ?_ | refine rG (fun _ z => z) ?_) | (refine kO 2 rfl ?_; first | refine rNeg rfl rfl (by omega) ?_ | refine rG (fun _ z => z) ?_) | (refine kO 3 rfl ?_; first | refine rLdr rfl rfl rfl rfl rfl ?_ | refine rLdb rfl rfl rfl rfl rfl rfl rfl ?_ | refine rLdi rfl rfl rfl rfl rfl rfl (by first | omega | decide | exact Nat.le_of_ble_eq_true rfl | (dsimp only [SC.len]; omega) | (simp; done) | (simp; omega) | omega) ?_ | refine rG (fun _ z => z) ?_ | refine rG (fun _ z => ⟨_, rfl, z⟩) ?_) | (refine kO 4 rfl ?_; first | refine rSti rfl rfl rfl rfl rfl rfl (by first | omega | decide | exact Nat.le_of_ble_eq_true rfl | (dsimp only [SC.len]; omega) | (simp; done) | (simp; omega) | omega) ?_ | refine rG (fun _ z => z) ?_) | (refine kO 5 rfl ?_; first | refine rIdN rfl rfl rfl rfl rfl rfl rfl (by first | omega | decide | exact Nat.le_of_ble_eq_true rfl | (dsimp only [SC.len]; omega) | (simp; done) | (simp; omega) | omega) ?_ | refine rIdx rfl rfl rfl rfl rfl rfl rfl (by first | omega | decide | exact Nat.le_of_ble_eq_true rfl | (dsimp only [SC.len]; omega) | (simp; done) | (simp; omega) | omega) ?_ | refine rIdoN rfl rfl rfl rfl rfl rfl rfl rfl (by first | omega | decide | exact Nat.le_of_ble_eq_true rfl | (dsimp only [SC.len]; omega) | (simp; done) | (simp; omega) | omega) ?_ | refine rIdo rfl rfl rfl rfl rfl rfl rfl rfl (by first | omega | decide | exact Nat.le_of_ble_eq_true rfl | (dsimp only [SC.len]; omega) | (simp; done) | (simp; omega) | omega) ?_ | refine rIdvN rfl rfl rfl rfl rfl rfl (by first | assumption | rfl) rfl ?_) | (refine kO 6 rfl ?_; first | refine rSLen rfl rfl rfl rfl rfl rfl ?_ | refine rLen rfl rfl rfl rfl rfl rfl ?_ | refine rLenv rfl rfl rfl rfl rfl rfl ?_ | refine rLeno rfl rfl rfl rfl rfl rfl rfl ?_ | refine rLenov rfl rfl rfl rfl rfl rfl rfl ?_ | refine rG (fun _ z => z) ?_) | (refine kO 8 rfl ?_; first | refine rSIdx rfl rfl rfl rfl rfl (by first | omega | (simp; omega) | (simp only [List.length_append, List.length_cons, List.length_nil]; omega) | decide) ?_ | refine rSSlB rfl rfl rfl rfl rfl rfl (by first | omega | (simp; omega) | (simp only [List.length_append, List.length_cons, List.length_nil]; omega) | decide) ?_ | refine rSSlL rfl rfl rfl rfl rfl (by first | omega | (simp; omega) | (simp only [List.length_append, List.length_cons, List.length_nil]; omega) | decide) ?_ | refine rSSlH rfl rfl rfl rfl rfl (by first | omega | (simp; omega) | (simp only [List.length_append, List.length_cons, List.length_nil]; omega) | decide) ?_ | refine rSlH rfl rfl rfl rfl rfl rfl rfl (by omega) ?_ | refine rSlL rfl rfl rfl rfl rfl rfl rfl (by omega) ?_ | refine rG (fun _ z => z) ?_) | refine oN ?_ | refine aS ?_ | refine aR ?_ | refine aK ?_ | refine aX ?_ | refine aB ?_ | refine aT ?_ | refine aC rfl ?_ | refine bT ?_ | refine bF ?_ | refine bPt (by omega) ?_ | refine bPf (by omega) ?_ | refine aL ?_ | refine aE ?_ | refine oY rfl rfl rfl ?_ | refine oZ rfl rfl rfl ?_ | refine oO rfl rfl rfl ?_ | refine oIt rfl rfl rfl (by omega) ?_ | refine oIf rfl rfl rfl (by omega) ?_ | refine oUt rfl rfl rfl (by omega) ?_ | refine oUf rfl rfl rfl (by omega) ?_ | refine dI (by kernel_rfl) ?_ | refine rG (fun _ z => ⟨(by (first | omega | decide | rfl | exact lnS (by omega) | exact lnN (by decide) | exact lnN (by omega) | exact lnC (by omega) | exact lvS (by omega) | exact lvN (by decide) | exact lvC (by omega) | exact uvS rfl | exact uvN rfl | ((try unfold SC.len); (try unfold SC.uni); (try unfold LIM); (try simp); (try omega); done) | omega)), z⟩) ?_ | refine rG (fun _ z => ⟨(by (first | omega | decide | rfl | exact lnS (by omega) | exact lnN (by decide) | exact lnN (by omega) | exact lnC (by omega) | exact lvS (by omega) | exact lvN (by decide) | exact lvC (by omega) | exact uvS rfl | exact uvN rfl | ((try unfold SC.len); (try unfold SC.uni); (try unfold LIM); (try simp); (try omega); done) | omega)), (by (first | omega | decide | rfl | exact lnS (by omega) | exact lnN (by decide) | exact lnN (by omega) | exact lnC (by omega) | exact lvS (by omega) | exact lvN (by decide) | exact lvC (by omega) | exact uvS rfl | exact uvN rfl | ((try unfold SC.len); (try unfold SC.uni); (try unfold LIM); (try simp); (try omega); done) | omega)), z⟩) ?_); (try conv => whnf))
    (first | done | rfl)
end Go.Proofs.Tryz
