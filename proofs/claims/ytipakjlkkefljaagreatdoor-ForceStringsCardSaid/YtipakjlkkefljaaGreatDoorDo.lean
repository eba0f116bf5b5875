/- The tables and errors of the library hold what their text lays; one number holds some number. -/
import Derived.Test.YtipakjlkkefljaaGreatDoorCx
import Derived.Test.YtipakjlkkefljaaGreatDoorFc
import Derived.Test.YtipakjlkkefljaaGreatDoorRows
import Derived.LaidMore
import Derived.LaidSub
import Derived.LaidLaws
import Derived.Stop.Joined
import Derived.Lay
import Derived.Lib.ItoaNum
import Derived.Shelf.Vars
namespace Go.Proofs.Tryz
open Go.Fw Go.ChangeShapes Go.WideShapes Go.ChangeAt Go.RowKit
set_option maxRecDepth 100000
abbrev laidD : List (String × DataW Unit) := [("math/bits.deBruijn32tab", Go.Proofs.YtipakjlkkefljaaGreatDoor.Rows.laid_math_bits_deBruijn32tab), ("math/bits.deBruijn64tab", Go.Proofs.YtipakjlkkefljaaGreatDoor.Rows.laid_math_bits_deBruijn64tab), ("internal/strconv.uint64pow10", Go.Proofs.YtipakjlkkefljaaGreatDoor.Rows.laid_internal_strconv_uint64pow10), ("unicode/utf8.acceptRanges", Go.Proofs.YtipakjlkkefljaaGreatDoor.Rows.laid_unicode_utf8_acceptRanges), ("strconv.ErrRange", Go.Proofs.YtipakjlkkefljaaGreatDoor.Rows.laid_strconv_ErrRange), ("strconv.ErrSyntax", Go.Proofs.YtipakjlkkefljaaGreatDoor.Rows.laid_strconv_ErrSyntax), ("unicode/utf8.first", Go.Proofs.YtipakjlkkefljaaGreatDoor.Rows.laid_unicode_utf8_first)]
theorem own : ownKnob prog.godebug = none := by kernel_rfl
theorem laidOut : laidOutB prog = true := by kernel_rfl
theorem plainH {W : World} (h : laidMet prog laidD W) : laidMetH prog laidD W := by
  unfold laidMetH
  rw [show (laidD.filter fun x => x.2.handleName?.isSome) = [] by kernel_rfl]
  exact h
theorem door_met (os : Os) (args : Array Value) : laidMetH prog laidD ((World.laidAll prog os laidD).forCall (fun _ _ => 0) ⟨#[], args, []⟩).memory :=
  plainH (laidMet_laidAll _ (by kernel_rfl) (by kernel_rfl))
theorem laid_plain {W : World} (h : laidMetH prog laidD W) : laidMet prog laidD W := (laidMetH_iff.1 h).1
theorem pow_ok {W : World} (h : laidMet prog laidD W) : (∀ k z, Lib.pow10Tab[k]? = some z → rd W 0 k = some (.int .u64 z)) ∧ rd W 0 20 = none := by
  have h1 : laidMet prog [("internal/strconv.uint64pow10", Go.Proofs.YtipakjlkkefljaaGreatDoor.Rows.laid_internal_strconv_uint64pow10)] W := (h.filter fun x => x.1 == "internal/strconv.uint64pow10")
  obtain ⟨ps, ⟨g, t, cs, fuel, p, q, hg, ht, hv, hd, _, _⟩, _, _⟩ := h1
  obtain rfl := Option.some.inj ((show prog.globalNamed "internal/strconv.uint64pow10" = some 0 by kernel_rfl).symm.trans hg)
  obtain rfl := Option.some.inj ((show (prog.globals[0]?).map (·.type) = some 145 by kernel_rfl).symm.trans ht)
  obtain ⟨xs, m, rfl, hx, hlen, hxl, hel⟩ := DataW.trod_array underlying145 hd
  have c1 : prog.cellsOf 117 = 1 := by kernel_rfl
  have c20 : prog.cellsOf 145 = 20 := by kernel_rfl
  rw [c20] at hlen
  simp only [c1] at hel
  have hx1 : DataW.agg (xs.map (·.1)) = DataW.agg (Lib.pow10Tab.map fun z => DataW.lit (.int .u64 z)) := (congrArg Prod.fst hx).symm
  simp only [DataW.agg.injEq] at hx1
  have key : ∀ (k : Nat) (z : Int), Lib.pow10Tab[k]? = some z → cs.toList[k]? = some (Value.int .u64 z) := by
    intro k z hz
    have hk : k < 20 := by
      have := (List.getElem?_eq_some_iff.1 hz).1
      rwa [Lib.pow10Tab_length] at this
    have hy : (xs[k]?).map (·.1) = some (DataW.lit (.int .u64 z)) := by
      rw [← List.getElem?_map, hx1, List.getElem?_map, hz]; rfl
    cases hxk : xs[k]? with
    | none => rw [hxk] at hy; cases hy
    | some y =>
      rw [hxk] at hy
      have e := hel k hk
      obtain ⟨d, r⟩ := y
      simp only [Option.map_some, Option.some.injEq] at hy
      subst hy
      rw [hxk] at e
      obtain ⟨n, e1, e2, _⟩ := DataW.trod_int underlying117 e
      simp only [Prod.mk.injEq, DataW.lit.injEq, Lit.int.injEq, true_and] at e2
      have e3 : (List.take 1 (List.drop (k * 1) cs.toList))[0]? = cs.toList[k]? := by simp
      rw [← e3, e1, ← e2.1]; rfl
  refine ⟨fun k z hz => ?_, ?_⟩
  · show W.cell? ⟨0, k, none⟩ = _
    rw [World.var?_cell hg hv k, ← Array.getElem?_toList]; exact key k z hz
  · show W.cell? ⟨0, 20, none⟩ = _
    rw [World.var?_cell hg hv 20, ← Array.getElem?_toList, List.getElem?_eq_none (by omega)]
theorem err_ok {W : World} {n : String} {b : DataW Unit} {g0 : Nat} (h1 : laidMet prog [(n, .iface "*errors.errorString" b)] W) (hg0 : prog.globalNamed n = some g0) (ht0 : (prog.globals[g0]?).map (·.type) = some 96) :
    (∃ u v, rd W g0 0 = some (.iface u v)) ∧ rd W g0 1 = none := by
  obtain ⟨ps, ⟨g, t, cs, fuel, p, q, hg, ht, hv, hd, _, _⟩, _, _⟩ := h1
  obtain rfl := Option.some.inj (hg0.symm.trans hg)
  obtain rfl := Option.some.inj (ht0.symm.trans ht)
  obtain ⟨ms, hu⟩ : ∃ ms, prog.underlying 96 = some (.interface ms) := ⟨_, underlying96⟩
  obtain ⟨_, u, v, e, _, _⟩ := iface_of_trod hu hd
  refine ⟨⟨u, v, ?_⟩, ?_⟩
  · show W.cell? ⟨g0, 0, none⟩ = _
    rw [World.var?_cell hg hv 0, ← Array.getElem?_toList, e]; rfl
  · show W.cell? ⟨g0, 1, none⟩ = _
    rw [World.var?_cell hg hv 1, ← Array.getElem?_toList, e]; rfl
theorem max_zero : ((begin prog (fun _ _ => 0) default).world.heap[1]?).bind Obj.row? = some (#[.int .i64 0], 3) := by kernel_rfl
theorem max_ok {W : World} (h : W.ShapedOpen prog) : (∃ m, rd W 1 0 = some (.int .i64 m)) ∧ rd W 1 1 = none := by
  refine ⟨cell_of_shapedOpen_int h (by decide) max_zero rfl (by kernel_rfl) (by kernel_rfl) (by kernel_rfl), ?_⟩
  obtain ⟨cs, hh, hs, _⟩ := h.1 1 _ _ (by decide) max_zero
  have h1 : cs.size = 1 := hs
  show W.cell? ⟨1, 1, none⟩ = none
  simp [World.cell?, hh, h1]
theorem glob_ok {W : World} (h : laidMetH prog laidD W) (hs : W.ShapedOpen prog) : GlobOK cx.gl (rd W) := by
  have h' := laid_plain h
  have hp := pow_ok h'
  have hm := max_ok hs
  have hy := err_ok (W := W) (h'.filter fun x => x.1 == "strconv.ErrSyntax") (g0 := 2) (by kernel_rfl) (by kernel_rfl)
  have hz := err_ok (W := W) (h'.filter fun x => x.1 == "strconv.ErrRange") (g0 := 3) (by kernel_rfl) (by kernel_rfl)
  intro g cs hm0
  have hm1 : (g, cs) = (0, Lib.pow10Tab.map fun z => SC.lit (.int .u64 z)) ∨ (g, cs) = (1, [SC.num .i64]) ∨ (g, cs) = (2, [SC.err]) ∨ (g, cs) = (3, [SC.err]) := by
    rw [show cx.gl = [(0, Lib.pow10Tab.map fun z => SC.lit (.int .u64 z)), (1, [SC.num .i64]), (2, [SC.err]), (3, [SC.err])] by kernel_rfl] at hm0
    simpa only [List.mem_cons, List.not_mem_nil, or_false] using hm0
  rcases hm1 with e | e | e | e
  all_goals simp only [Prod.mk.injEq] at e
  all_goals obtain ⟨rfl, rfl⟩ := e
  · refine ⟨fun k x hk => ?_, fun _ => by rw [List.length_map, Lib.pow10Tab_length]; exact hp.2⟩
    rw [List.getElem?_map] at hk
    cases hz : Lib.pow10Tab[k]? with
    | none => rw [hz] at hk; cases hk
    | some z =>
      rw [hz] at hk
      cases hk
      exact ⟨_, hp.1 k z hz, .lit rfl⟩
  · obtain ⟨⟨m, e⟩, e2⟩ := hm
    refine ⟨fun k x hk => ?_, fun _ => e2⟩
    match k, hk with
    | 0, hk => cases hk; exact ⟨_, e, .num ⟨m, rfl⟩⟩
    | k + 1, hk => cases hk
  · obtain ⟨⟨u, v, e⟩, e2⟩ := hy
    refine ⟨fun k x hk => ?_, fun _ => e2⟩
    match k, hk with
    | 0, hk => cases hk; exact ⟨_, e, .err ⟨u, v, rfl⟩⟩
    | k + 1, hk => cases hk
  · obtain ⟨⟨u, v, e⟩, e2⟩ := hz
    refine ⟨fun k x hk => ?_, fun _ => e2⟩
    match k, hk with
    | 0, hk => cases hk; exact ⟨_, e, .err ⟨u, v, rfl⟩⟩
    | k + 1, hk => cases hk
end Go.Proofs.Tryz
