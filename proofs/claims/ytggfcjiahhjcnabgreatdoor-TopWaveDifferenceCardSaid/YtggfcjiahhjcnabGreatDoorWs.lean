/- Parts of the proof, joined. -/
import Derived.Test.YtggfcjiahhjcnabGreatDoorSh
import Derived.Test.YtggfcjiahhjcnabGreatDoorFe
import Derived.Test.YtggfcjiahhjcnabGreatDoorP
import Derived.Test.YtggfcjiahhjcnabGreatDoorWb
namespace Go.Proofs.Tryz
open Go.Fw Go.IntWalk Go.Plain
set_option maxRecDepth 100000
set_option maxHeartbeats 8000000
theorem gl_pow : (4, Lib.pow10Tab.map fun z => SC.lit (.int .u64 z)) ∈ cx.gl := List.mem_of_getElem? (i := 4) (by kernel_rfl)
theorem gl_max : (1, [SC.num .i64]) ∈ cx.gl := List.mem_of_getElem? (i := 1) (by kernel_rfl)
theorem gl_syn : (2, [SC.err]) ∈ cx.gl := List.mem_of_getElem? (i := 2) (by kernel_rfl)
theorem gl_rng : (3, [SC.err]) ∈ cx.gl := List.mem_of_getElem? (i := 3) (by kernel_rfl)
theorem itoa_sat (n : Int) (h : inI n) : Sat cx.P cx.gl 33 [I n] (.one (SS (Lib.itoa n))) := itoa_gen laysM171 (by kernel_rfl) (g := 4) (by kernel_rfl) gl_pow n h
theorem atoi_sat (s : List UInt8) (hl : s.length ≤ 1000000) {v : Int} (h : Lib.atoiAll s = .ok v) : Sat cx.P cx.gl 53 [SS s] (.tup [I v, (false, [.lit .nilIface])]) := atoi_ok laysC172 (by kernel_rfl) s hl h
theorem atoiBad_sat (s : List UInt8) (hl : s.length ≤ 1000000) (h : ∀ v, Lib.atoiAll s ≠ .ok v) : ∃ v, Sat cx.P cx.gl 53 [SS s] (.tup [I v, (false, [.err])]) := atoi_bad laysC172 (by kernel_rfl) gl_syn gl_rng s hl h
theorem cut2_sat (s : List UInt8) (c : UInt8) (hl : s.length ≤ 1000000) : Sat cx.P cx.gl 84 [SS s, SS [c]] (.tup [SS (Lib.cut s [c]).1, SS (Lib.cut s [c]).2.1, Bo (Lib.cut s [c]).2.2]) := cut_gen lays145 (by kernel_rfl) gl_max s c hl
theorem trimPrefix_sat (s p : List UInt8) : Sat cx.P cx.gl 54 [SS s, SS p] (.one (SS (Lib.trimPrefix s p))) := trimPrefix_gen lays101 (by kernel_rfl) s p
theorem split_sat (s : List UInt8) (c : UInt8) (hl : s.length ≤ 1000000) (hlen : (cutS s c).length = Lib.countB (B s) (B [c]) + 1) : Sat cx.P cx.gl 29 [SS s, SS [c]] (.own 1 (.view (strs (cutS s c)))) := split_gen lays146 (by kernel_rfl) (by kernel_rfl) gl_max s c hl hlen
theorem join_sat (l : List (List UInt8)) (c : UInt8) (hl : l.length ≤ 1000000) (hlen : (Lib.join l [c]).length ≤ 1000000000) : Sat cx.P cx.gl 35 [(false, [.view (strs l)]), SS [c]] (.one (SS (Lib.join l [c]))) := join_gen lays156 Builder_Extra_156 (by kernel_rfl) l c hl hlen
end Go.Proofs.Tryz

namespace Go.Proofs.Tryz
open Go.Fw Go.IntWalk Go.Plain
set_option maxRecDepth 100000
set_option maxHeartbeats 8000000
abbrev absI' (n : Int) : Int := if -n > n then -n else n
theorem bSize_t (n : Int) (h : -1000000 ≤ n ∧ n ≤ 1000000) : Sat cx.P cx.gl 117 [I n] (.one (I (n.natAbs : Nat))) := by
  have e : (if -n > n then -n else n) = ((n.natAbs : Nat) : Int) := by split <;> omega
  rw [← e]
  refine Sat_of_awp (fn := f117) cx_ok (by kernel_rfl) (by kernel_rfl) rfl (by kernel_rfl) (Nat.le_of_ble_eq_true rfl) ?_
  repeat ((first | refine oP rfl ?_ | refine rP rfl (fun _ z => z) ?_ | (refine kO 1 rfl ?_; first | refine rAdd rfl rfl rfl (by omega) ?_ | refine rSub rfl rfl rfl (by omega) ?_ | refine rMul rfl rfl rfl (by omega) ?_ | refine rQuo rfl rfl rfl (by omega) ?_ | refine rRem rfl rfl rfl (by omega) ?_ | refine rQuo' rfl rfl rfl (by omega) ?_ | refine rRem' rfl rfl rfl (by omega) ?_ | refine rG (fun _ z => z) ?_) | (refine kO 2 rfl ?_; first | refine rNeg rfl rfl (by omega) ?_ | refine rG (fun _ z => z) ?_) | (refine kO 3 rfl ?_; first | refine rLdr rfl rfl rfl rfl rfl ?_ | refine rLdb rfl rfl rfl rfl rfl rfl rfl ?_ | refine rLdi rfl rfl rfl rfl rfl rfl (by first | omega | decide | exact Nat.le_of_ble_eq_true rfl | (dsimp only [SC.len]; omega) | (simp; done) | (simp; omega) | omega) ?_ | refine rG (fun _ z => z) ?_ | refine rG (fun _ z => ⟨_, rfl, z⟩) ?_) | (refine kO 4 rfl ?_; first | refine rSti rfl rfl rfl rfl rfl rfl (by first | omega | decide | exact Nat.le_of_ble_eq_true rfl | (dsimp only [SC.len]; omega) | (simp; done) | (simp; omega) | omega) ?_ | refine rG (fun _ z => z) ?_) | (refine kO 5 rfl ?_; first | refine rIdN rfl rfl rfl rfl rfl rfl rfl (by first | omega | decide | exact Nat.le_of_ble_eq_true rfl | (dsimp only [SC.len]; omega) | (simp; done) | (simp; omega) | omega) ?_ | refine rIdx rfl rfl rfl rfl rfl rfl rfl (by first | omega | decide | exact Nat.le_of_ble_eq_true rfl | (dsimp only [SC.len]; omega) | (simp; done) | (simp; omega) | omega) ?_ | refine rIdoN rfl rfl rfl rfl rfl rfl rfl rfl (by first | omega | decide | exact Nat.le_of_ble_eq_true rfl | (dsimp only [SC.len]; omega) | (simp; done) | (simp; omega) | omega) ?_ | refine rIdo rfl rfl rfl rfl rfl rfl rfl rfl (by first | omega | decide | exact Nat.le_of_ble_eq_true rfl | (dsimp only [SC.len]; omega) | (simp; done) | (simp; omega) | omega) ?_ | refine rIdvN rfl rfl rfl rfl rfl rfl (by first | assumption | rfl) rfl ?_) | (refine kO 6 rfl ?_; first | refine rLen rfl rfl rfl rfl rfl rfl ?_ | refine rLenv rfl rfl rfl rfl rfl rfl ?_ | refine rLeno rfl rfl rfl rfl rfl rfl rfl ?_ | refine rLenov rfl rfl rfl rfl rfl rfl rfl ?_ | refine rG (fun _ z => z) ?_) | (refine kO 8 rfl ?_; first | refine rSlH rfl rfl rfl rfl rfl rfl rfl (by omega) ?_ | refine rSlL rfl rfl rfl rfl rfl rfl rfl (by omega) ?_ | refine rG (fun _ z => z) ?_) | refine oN ?_ | refine aS ?_ | refine aR ?_ | refine aK ?_ | refine aX ?_ | refine aB ?_ | refine aT ?_ | refine aC rfl ?_ | refine bT ?_ | refine bF ?_ | refine bPt (by omega) ?_ | refine bPf (by omega) ?_ | refine aL ?_ | refine aE ?_ | refine oY rfl rfl rfl ?_ | refine oZ rfl rfl rfl ?_ | refine oO rfl rfl rfl ?_ | refine oIt rfl rfl rfl (by omega) ?_ | refine oIf rfl rfl rfl (by omega) ?_ | refine oUt rfl rfl rfl (by omega) ?_ | refine oUf rfl rfl rfl (by omega) ?_ | refine dI (by kernel_rfl) ?_ | refine rG (fun _ z => ⟨(by (first | omega | decide | rfl | exact lnS (by omega) | exact lnN (by decide) | exact lnN (by omega) | exact lnC (by omega) | exact lvS (by omega) | exact lvN (by decide) | exact lvC (by omega) | exact uvS rfl | exact uvN rfl | ((try unfold SC.len); (try unfold SC.uni); (try unfold LIM); (try simp); (try omega); done) | omega)), z⟩) ?_ | refine rG (fun _ z => ⟨(by (first | omega | decide | rfl | exact lnS (by omega) | exact lnN (by decide) | exact lnN (by omega) | exact lnC (by omega) | exact lvS (by omega) | exact lvN (by decide) | exact lvC (by omega) | exact uvS rfl | exact uvN rfl | ((try unfold SC.len); (try unfold SC.uni); (try unfold LIM); (try simp); (try omega); done) | omega)), (by (first | omega | decide | rfl | exact lnS (by omega) | exact lnN (by decide) | exact lnN (by omega) | exact lnC (by omega) | exact lvS (by omega) | exact lvN (by decide) | exact lvC (by omega) | exact uvS rfl | exact uvN rfl | ((try unfold SC.len); (try unfold SC.uni); (try unfold LIM); (try simp); (try omega); done) | omega)), z⟩) ?_); (try conv => whnf))
  (first | done | rfl)
/-- The digits of a number, none of 0. -/
def dg0 (m : Int) : List UInt8 := if m.natAbs = 0 then [] else Lib.decDigits m.natAbs
theorem dg0_step {m : Int} (h : m ≠ 0) : dg0 m = dg0 (m.tdiv 10) ++ [UInt8.ofNat (48 + (m.tmod 10).natAbs)] := by
  have e1 : (m.tdiv 10).natAbs = m.natAbs / 10 := Int.natAbs_tdiv ..
  have e2 : (m.tmod 10).natAbs = m.natAbs % 10 := Int.natAbs_tmod ..
  unfold dg0
  rw [if_neg (by omega), e1, e2, Lib.decDigits]
  split
  · rename_i h
    rw [if_pos (by omega), Nat.mod_eq_of_lt h]; rfl
  · rw [if_neg (by omega)]
theorem dec_len (n : Int) (hn : inI n) : (Lib.decDigits n.natAbs).length ≤ 20 := by
  rw [Lib.decDigits_length]
  have h : n.natAbs < 10 ^ 20 := by
    obtain ⟨hn1, hn2⟩ := hn
    have : (10 : Nat) ^ 20 = 100000000000000000000 := by decide
    omega
  rcases Nat.lt_or_ge 20 (Lib.nDigits n.natAbs) with h1 | h1
  · exfalso
    have h2 : ∀ (k u : Nat), u < 10 ^ (k + 1) → Lib.nDigits u ≤ k + 1 := by
      intro k
      induction k with
      | zero => intro u hu; rw [Lib.nDigits_small (by omega)]; omega
      | succ k ih =>
        intro u hu
        by_cases hs : u < 10
        · rw [Lib.nDigits_small hs]; omega
        · rw [Lib.nDigits_big hs]
          have := ih (u / 10) (by rw [Nat.pow_succ] at hu; omega)
          omega
    have := h2 19 n.natAbs h
    omega
  · exact h1
end Go.Proofs.Tryz

namespace Go.Proofs.Tryz
open Go.Fw Go.IntWalk Go.Plain
set_option maxRecDepth 100000
set_option maxHeartbeats 8000000
def numR (o : Option Int) : List SV := match o with
  | some n => [I n, Bo true]
  | none => [I 0, Bo false]
end Go.Proofs.Tryz

namespace Go.Proofs.Tryz
open Go.Fw Go.IntWalk Go.Plain
set_option maxRecDepth 100000
set_option maxHeartbeats 8000000
theorem strs_snoc (l : List (List UInt8)) (x : List UInt8) : strs (l ++ [x]) = strs l ++ [[.lit (.string (B x))]] := by simp
theorem strs_len (l : List (List UInt8)) : (strs l).length = l.length := by simp
theorem strs_uni (l : List (List UInt8)) (x : List UInt8) : (SC.view (strs l ++ [[.lit (.string (B x))]])).uni 1 := by
  intro e he
  rcases List.mem_append.1 he with he | he
  · obtain ⟨w, _, rfl⟩ := List.mem_map.1 he
    rfl
  · rw [List.mem_singleton] at he; subst he; rfl
end Go.Proofs.Tryz
