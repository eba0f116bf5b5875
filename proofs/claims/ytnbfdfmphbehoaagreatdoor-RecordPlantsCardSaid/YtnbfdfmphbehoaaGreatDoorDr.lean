/- The tables and errors of the library hold what their text lays; one number holds some number. -/

import Derived.Test.YtnbfdfmphbehoaaGreatDoorCx
import Derived.Test.YtnbfdfmphbehoaaGreatDoorFc
import Derived.Test.YtnbfdfmphbehoaaGreatDoorRows
import Derived.LaidMore
import Derived.LaidSub
import Derived.LaidLaws
import Derived.Stop.Joined
import Derived.Lay
import Derived.Lib.ItoaNum
import Derived.Shelf.Vars
import Derived.JoinedOf
import Derived.Test.YtnbfdfmphbehoaaGreatDoorNa
import Derived.Test.YtnbfdfmphbehoaaGreatDoorFe
namespace Go.Proofs.Tryz
open Go.Fw Go.ChangeShapes Go.WideShapes Go.ChangeAt Go.RowKit
set_option maxRecDepth 100000
abbrev laidD : List (String × DataW Unit) := [("math/bits.deBruijn32tab", Go.Proofs.YtnbfdfmphbehoaaGreatDoor.Rows.laid_math_bits_deBruijn32tab), ("math/bits.deBruijn64tab", Go.Proofs.YtnbfdfmphbehoaaGreatDoor.Rows.laid_math_bits_deBruijn64tab), ("internal/strconv.uint64pow10", Go.Proofs.YtnbfdfmphbehoaaGreatDoor.Rows.laid_internal_strconv_uint64pow10), ("unicode/utf8.acceptRanges", Go.Proofs.YtnbfdfmphbehoaaGreatDoor.Rows.laid_unicode_utf8_acceptRanges), ("strconv.ErrRange", Go.Proofs.YtnbfdfmphbehoaaGreatDoor.Rows.laid_strconv_ErrRange), ("strconv.ErrSyntax", Go.Proofs.YtnbfdfmphbehoaaGreatDoor.Rows.laid_strconv_ErrSyntax), ("buchholz/group.patterns", Go.Proofs.YtnbfdfmphbehoaaGreatDoor.Rows.laid_buchholz_group_patterns), ("buchholz/wave.never", Go.Proofs.YtnbfdfmphbehoaaGreatDoor.Rows.laid_buchholz_wave_never), ("unicode/utf8.first", Go.Proofs.YtnbfdfmphbehoaaGreatDoor.Rows.laid_unicode_utf8_first)]
theorem own : ownKnob prog.godebug = none := by kernel_rfl
theorem laidOut : laidOutB prog = true := by kernel_rfl
theorem plainH {W : World} (h : laidMet prog laidD W) : laidMetH prog laidD W := by
  unfold laidMetH
  rw [show (laidD.filter fun x => x.2.handleName?.isSome) = [] by kernel_rfl]
  exact h
theorem door_met (os : Os) (args : Array Value) : laidMetH prog laidD ((World.laidAll prog os laidD).forCall (fun _ _ => 0) ⟨#[], args, []⟩).memory :=
  plainH (laidMet_laidAll _ (by kernel_rfl) (by kernel_rfl))
theorem laid_plain {W : World} (h : laidMetH prog laidD W) : laidMet prog laidD W := (laidMetH_iff.1 h).1
theorem frac_of {w : World} {m : Nat} {l : List Value} {i j : Int} {x : DataW Unit × List MemPlace}
    (hd : DataW.trod (fun _ => ()) prog w 0 (fun _ => true) false m 145 l = some x) (hx : x.1 = .agg [.lit (.int .i64 i), .lit (.int .i64 j)]) : l = [.int .i64 i, .int .i64 j] := by
  obtain ⟨xs, n, rfl, rfl, hlen, hxl, hel⟩ := DataW.trod_struct underlying145 hd
  have c2 : prog.cellsOf 145 = 2 := by kernel_rfl
  have c3 : prog.cellsOf 3 = 1 := by kernel_rfl
  rw [c2] at hlen
  simp only [DataW.agg.injEq] at hx
  match l, hlen, xs, hx with
  | [v0, v1], _, [x0, x1], hx =>
    simp only [List.map_cons, List.map_nil, List.cons.injEq, and_true] at hx
    have h0 := hel 0 _ rfl
    have h1 := hel 1 _ rfl
    change DataW.trod (fun _ => ()) prog w 0 (fun _ => true) false n 3 (List.take (prog.cellsOf 3) (List.drop 0 [v0, v1])) = some x0 at h0
    change DataW.trod (fun _ => ()) prog w 0 (fun _ => true) false n 3 (List.take (prog.cellsOf 3) (List.drop 1 [v0, v1])) = some x1 at h1
    rw [c3] at h0 h1
    simp only [List.drop_zero, List.take_succ_cons, List.take_zero, List.drop_succ_cons] at h0 h1
    obtain ⟨d0, q0⟩ := x0
    obtain ⟨d1, q1⟩ := x1
    obtain ⟨rfl, rfl⟩ := hx
    obtain ⟨k0, e0, f0, _⟩ := DataW.trod_int underlying3 h0
    obtain ⟨k1, e1, f1, _⟩ := DataW.trod_int underlying3 h1
    simp only [List.cons.injEq, and_true] at e0 e1
    simp only [Prod.mk.injEq, DataW.lit.injEq, Lit.int.injEq, true_and] at f0 f1
    rw [e0, e1, ← f0.1, ← f1.1]
theorem never_ok {W : World} (h : laidMet prog laidD W) : rd W 9 0 = some (.int .i64 1) ∧ rd W 9 1 = some (.int .i64 1) ∧ rd W 9 2 = some (.int .i64 0) ∧ rd W 9 3 = some (.int .i64 1) ∧ rd W 9 4 = none := by
  have h1 : laidMet prog [("buchholz/wave.never", Go.Proofs.YtnbfdfmphbehoaaGreatDoor.Rows.laid_buchholz_wave_never)] W := (h.filter fun x => x.1 == "buchholz/wave.never")
  obtain ⟨ps, ⟨g, t, cs, fuel, p, q, hg, ht, hv, hd, _, _⟩, _, _⟩ := h1
  obtain rfl := Option.some.inj ((show prog.globalNamed "buchholz/wave.never" = some 9 by kernel_rfl).symm.trans hg)
  obtain rfl := Option.some.inj ((show (prog.globals[9]?).map (·.type) = some 378 by kernel_rfl).symm.trans ht)
  obtain ⟨xs, m, rfl, hx, hlen, hxl, hel⟩ := DataW.trod_struct underlying378 hd
  have c4 : prog.cellsOf 378 = 4 := by kernel_rfl
  have c2 : prog.cellsOf 145 = 2 := by kernel_rfl
  rw [c4] at hlen
  have hx1 : DataW.agg (xs.map (·.1)) = DataW.agg [_, _] := (congrArg Prod.fst hx).symm
  simp only [DataW.agg.injEq] at hx1
  obtain ⟨l⟩ := cs
  match xs, hx1, l, hlen with
  | [x0, x1], hx1, [v0, v1, v2, v3], _ =>
    simp only [List.map_cons, List.map_nil, List.cons.injEq, and_true] at hx1
    obtain ⟨y0, y1⟩ := hx1
    have h0 := hel 0 _ rfl
    have h1 := hel 1 _ rfl
    change DataW.trod (fun _ => ()) prog W 0 (fun _ => true) false m 145 (List.take (prog.cellsOf 145) (List.drop 0 [v0, v1, v2, v3])) = some x0 at h0
    change DataW.trod (fun _ => ()) prog W 0 (fun _ => true) false m 145 (List.take (prog.cellsOf 145) (List.drop 2 [v0, v1, v2, v3])) = some x1 at h1
    rw [c2] at h0 h1
    have k0 := frac_of h0 y0
    have k1 := frac_of h1 y1
    simp at k0 k1
    obtain ⟨rfl, rfl⟩ := k0
    obtain ⟨rfl, rfl⟩ := k1
    exact ⟨World.var?_cell hg hv 0, World.var?_cell hg hv 1, World.var?_cell hg hv 2, World.var?_cell hg hv 3, World.var?_cell hg hv 4⟩
theorem pow_ok {W : World} (h : laidMet prog laidD W) : (∀ k z, Lib.pow10Tab[k]? = some z → rd W 6 k = some (.int .u64 z)) ∧ rd W 6 20 = none := by
  have h1 : laidMet prog [("internal/strconv.uint64pow10", Go.Proofs.YtnbfdfmphbehoaaGreatDoor.Rows.laid_internal_strconv_uint64pow10)] W := (h.filter fun x => x.1 == "internal/strconv.uint64pow10")
  obtain ⟨ps, ⟨g, t, cs, fuel, p, q, hg, ht, hv, hd, _, _⟩, _, _⟩ := h1
  obtain rfl := Option.some.inj ((show prog.globalNamed "internal/strconv.uint64pow10" = some 6 by kernel_rfl).symm.trans hg)
  obtain rfl := Option.some.inj ((show (prog.globals[6]?).map (·.type) = some 368 by kernel_rfl).symm.trans ht)
  obtain ⟨xs, m, rfl, hx, hlen, hxl, hel⟩ := DataW.trod_array underlying368 hd
  have c1 : prog.cellsOf 299 = 1 := by kernel_rfl
  have c20 : prog.cellsOf 368 = 20 := by kernel_rfl
  rw [c20] at hlen
  simp only [c1] at hel
  have hx1 : DataW.agg (xs.map (·.1)) = DataW.agg (Lib.pow10Tab.map fun z => DataW.lit (.int .u64 z)) := (congrArg Prod.fst hx).symm
  simp only [DataW.agg.injEq] at hx1
  have key : ∀ (k : Nat) (z : Int), Lib.pow10Tab[k]? = some z → cs.toList[k]? = some (Value.int .u64 z) := by
    intro k z hz
    have hk : k < 20 := by
      have := (List.getElem?_eq_some_iff.1 hz).1
      rwa [Lib.pow10Tab_length] at this
    have hy : (xs[k]?).map (·.1) = some (DataW.lit (.int .u64 z)) := by
      rw [← List.getElem?_map, hx1, List.getElem?_map, hz]; rfl
    cases hxk : xs[k]? with
    | none => rw [hxk] at hy; cases hy
    | some y =>
      rw [hxk] at hy
      have e := hel k hk
      obtain ⟨d, r⟩ := y
      simp only [Option.map_some, Option.some.injEq] at hy
      subst hy
      rw [hxk] at e
      obtain ⟨n, e1, e2, _⟩ := DataW.trod_int underlying299 e
      simp only [Prod.mk.injEq, DataW.lit.injEq, Lit.int.injEq, true_and] at e2
      have e3 : (List.take 1 (List.drop (k * 1) cs.toList))[0]? = cs.toList[k]? := by simp
      rw [← e3, e1, ← e2.1]; rfl
  refine ⟨fun k z hz => ?_, ?_⟩
  · show W.cell? ⟨6, k, none⟩ = _
    rw [World.var?_cell hg hv k, ← Array.getElem?_toList]; exact key k z hz
  · show W.cell? ⟨6, 20, none⟩ = _
    rw [World.var?_cell hg hv 20, ← Array.getElem?_toList, List.getElem?_eq_none (by omega)]
theorem turns_of {w : World} {m : Nat} {l : List Value} {i j k : Int} {x : DataW Unit × List MemPlace}
    (hd : DataW.trod (fun _ => ()) prog w 0 (fun _ => true) false m 78 l = some x) (hx : x.1 = .agg [.lit (.int .i64 i), .lit (.int .i64 j), .lit (.int .i64 k)]) : l = [.int .i64 i, .int .i64 j, .int .i64 k] := by
  obtain ⟨xs, n, rfl, rfl, hlen, hxl, hel⟩ := DataW.trod_array underlying78 hd
  have c3 : prog.cellsOf 78 = 3 := by kernel_rfl
  have c1 : prog.cellsOf 3 = 1 := by kernel_rfl
  rw [c3] at hlen
  simp only [c1] at hel
  simp only [DataW.agg.injEq] at hx
  match l, hlen, xs, hx with
  | [v0, v1, v2], _, [x0, x1, x2], hx =>
    simp only [List.map_cons, List.map_nil, List.cons.injEq, and_true] at hx
    have h0 := hel 0 (by decide)
    have h1 := hel 1 (by decide)
    have h2 := hel 2 (by decide)
    obtain ⟨d0, q0⟩ := x0
    obtain ⟨d1, q1⟩ := x1
    obtain ⟨d2, q2⟩ := x2
    obtain ⟨rfl, rfl, rfl⟩ := hx
    change DataW.trod (fun _ => ()) prog w 0 (fun _ => true) false n 3 [v0] = some _ at h0
    change DataW.trod (fun _ => ()) prog w 0 (fun _ => true) false n 3 [v1] = some _ at h1
    change DataW.trod (fun _ => ()) prog w 0 (fun _ => true) false n 3 [v2] = some _ at h2
    obtain ⟨k0, e0, f0, _⟩ := DataW.trod_int underlying3 h0
    obtain ⟨k1, e1, f1, _⟩ := DataW.trod_int underlying3 h1
    obtain ⟨k2, e2, f2, _⟩ := DataW.trod_int underlying3 h2
    simp only [List.cons.injEq, and_true] at e0 e1 e2
    simp only [Prod.mk.injEq, DataW.lit.injEq, Lit.int.injEq, true_and] at f0 f1 f2
    rw [e0, e1, e2, ← f0.1, ← f1.1, ← f2.1]
theorem pattern_of {w : World} {m : Nat} {l : List Value} {c : UInt8} {i j k : Int} {x : DataW Unit × List MemPlace}
    (hd : DataW.trod (fun _ => ()) prog w 0 (fun _ => true) false m 316 l = some x) (hx : x.1 = .agg [.lit (.string [c]), .agg [.lit (.int .i64 i), .lit (.int .i64 j), .lit (.int .i64 k)]]) :
    l = [.string ⟨#[c]⟩, .int .i64 i, .int .i64 j, .int .i64 k] := by
  obtain ⟨xs, n, rfl, rfl, hlen, hxl, hel⟩ := DataW.trod_struct underlying316 hd
  have c4 : prog.cellsOf 316 = 4 := by kernel_rfl
  have c1 : prog.cellsOf 9 = 1 := by kernel_rfl
  have c3 : prog.cellsOf 78 = 3 := by kernel_rfl
  rw [c4] at hlen
  simp only [DataW.agg.injEq] at hx
  match l, hlen, xs, hx with
  | [v0, v1, v2, v3], _, [x0, x1], hx =>
    simp only [List.map_cons, List.map_nil, List.cons.injEq, and_true] at hx
    have h0 := hel 0 _ rfl
    have h1 := hel 1 _ rfl
    change DataW.trod (fun _ => ()) prog w 0 (fun _ => true) false n 9 (List.take (prog.cellsOf 9) (List.drop 0 [v0, v1, v2, v3])) = some x0 at h0
    change DataW.trod (fun _ => ()) prog w 0 (fun _ => true) false n 78 (List.take (prog.cellsOf 78) (List.drop 1 [v0, v1, v2, v3])) = some x1 at h1
    rw [c1] at h0
    rw [c3] at h1
    simp only [List.drop_zero, List.take_succ_cons, List.take_zero, List.drop_succ_cons] at h0 h1
    have e1 := turns_of h1 hx.2
    obtain ⟨s, e0, f0, _⟩ := DataW.trod_string underlying9 h0
    simp only [List.cons.injEq, and_true] at e0 e1
    have f1 := hx.1
    rw [f0] at f1
    simp only [DataW.lit.injEq, Lit.string.injEq] at f1
    have es : s = ⟨#[c]⟩ := by
      obtain ⟨s⟩ := s
      have : s = #[c] := Array.ext' f1
      rw [this]
    rw [e0, es, e1.1, e1.2.1, e1.2.2]
theorem pats_ok {W : World} (h : laidMet prog laidD W) : (∀ (k : Nat) (v : Value), [Value.string ⟨#[121]⟩, .int .i64 1, .int .i64 (-1), .int .i64 0, .string ⟨#[100]⟩, .int .i64 1, .int .i64 0, .int .i64 0, .string ⟨#[122]⟩, .int .i64 1, .int .i64 (-2), .int .i64 1][k]? = some v → rd W 3 k = some v) ∧ rd W 3 12 = none := by
  have h1 : laidMet prog [("buchholz/group.patterns", Go.Proofs.YtnbfdfmphbehoaaGreatDoor.Rows.laid_buchholz_group_patterns)] W := (h.filter fun x => x.1 == "buchholz/group.patterns")
  obtain ⟨ps, ⟨g, t, cs, fuel, p, q, hg, ht, hv, hd, _, _⟩, _, _⟩ := h1
  obtain rfl := Option.some.inj ((show prog.globalNamed "buchholz/group.patterns" = some 3 by kernel_rfl).symm.trans hg)
  obtain rfl := Option.some.inj ((show (prog.globals[3]?).map (·.type) = some 317 by kernel_rfl).symm.trans ht)
  obtain ⟨xs, m, rfl, hx, hlen, hxl, hel⟩ := DataW.trod_array underlying317 hd
  have c4 : prog.cellsOf 316 = 4 := by kernel_rfl
  have c12 : prog.cellsOf 317 = 12 := by kernel_rfl
  rw [c12] at hlen
  simp only [c4] at hel
  have hx1 : DataW.agg (xs.map (·.1)) = DataW.agg [_, _, _] := (congrArg Prod.fst hx).symm
  simp only [DataW.agg.injEq] at hx1
  obtain ⟨l⟩ := cs
  match xs, hx1, l, hlen with
  | [x0, x1, x2], hx1, [v0, v1, v2, v3, v4, v5, v6, v7, v8, v9, v10, v11], _ =>
    simp only [List.map_cons, List.map_nil, List.cons.injEq, and_true] at hx1
    obtain ⟨y0, y1, y2⟩ := hx1
    have h0 := hel 0 (by decide)
    have h1 := hel 1 (by decide)
    have h2 := hel 2 (by decide)
    change DataW.trod (fun _ => ()) prog W 0 (fun _ => true) false m 316 [v0, v1, v2, v3] = some x0 at h0
    change DataW.trod (fun _ => ()) prog W 0 (fun _ => true) false m 316 [v4, v5, v6, v7] = some x1 at h1
    change DataW.trod (fun _ => ()) prog W 0 (fun _ => true) false m 316 [v8, v9, v10, v11] = some x2 at h2
    have k0 := pattern_of h0 y0
    have k1 := pattern_of h1 y1
    have k2 := pattern_of h2 y2
    simp only [List.cons.injEq, and_true] at k0 k1 k2
    obtain ⟨rfl, rfl, rfl, rfl⟩ := k0
    obtain ⟨rfl, rfl, rfl, rfl⟩ := k1
    obtain ⟨rfl, rfl, rfl, rfl⟩ := k2
    refine ⟨fun k v hk => ?_, World.var?_cell hg hv 12⟩
    show W.cell? ⟨3, k, none⟩ = _
    rw [World.var?_cell hg hv k, ← Array.getElem?_toList]; exact hk
theorem err_ok {W : World} {n : String} {b : DataW Unit} {g0 : Nat} (h1 : laidMet prog [(n, .iface "*errors.errorString" b)] W) (hg0 : prog.globalNamed n = some g0) (ht0 : (prog.globals[g0]?).map (·.type) = some 213) :
    (∃ u v, rd W g0 0 = some (.iface u v)) ∧ rd W g0 1 = none := by
  obtain ⟨ps, ⟨g, t, cs, fuel, p, q, hg, ht, hv, hd, _, _⟩, _, _⟩ := h1
  obtain rfl := Option.some.inj (hg0.symm.trans hg)
  obtain rfl := Option.some.inj (ht0.symm.trans ht)
  obtain ⟨ms, hu⟩ : ∃ ms, prog.underlying 213 = some (.interface ms) := ⟨_, underlying213⟩
  obtain ⟨_, u, v, e, _, _⟩ := iface_of_trod hu hd
  refine ⟨⟨u, v, ?_⟩, ?_⟩
  · show W.cell? ⟨g0, 0, none⟩ = _
    rw [World.var?_cell hg hv 0, ← Array.getElem?_toList, e]; rfl
  · show W.cell? ⟨g0, 1, none⟩ = _
    rw [World.var?_cell hg hv 1, ← Array.getElem?_toList, e]; rfl
theorem max_zero : ((begin prog (fun _ _ => 0) default).world.heap[0]?).bind Obj.row? = some (#[.int .i64 0], 3) := by kernel_rfl
theorem max_ok {W : World} (h : W.ShapedOpen prog) : (∃ m, rd W 0 0 = some (.int .i64 m)) ∧ rd W 0 1 = none := by
  refine ⟨cell_of_shapedOpen_int h (by decide) max_zero rfl (by kernel_rfl) (by kernel_rfl) (by kernel_rfl), ?_⟩
  obtain ⟨cs, hh, hs, _⟩ := h.1 0 _ _ (by decide) max_zero
  have h1 : cs.size = 1 := hs
  show W.cell? ⟨0, 1, none⟩ = none
  simp [World.cell?, hh, h1]
theorem glob_ok {W : World} (h : laidMetH prog laidD W) (hs : W.ShapedOpen prog) : GlobOK cx.gl (rd W) := by
  have h' := laid_plain h
  have hp := pow_ok h'
  have hq := pats_ok h'
  have hm := max_ok hs
  have hy := err_ok (W := W) (h'.filter fun x => x.1 == "strconv.ErrSyntax") (g0 := 1) (by kernel_rfl) (by kernel_rfl)
  have hz := err_ok (W := W) (h'.filter fun x => x.1 == "strconv.ErrRange") (g0 := 2) (by kernel_rfl) (by kernel_rfl)
  intro g cs hm0
  have hm1 : (g, cs) = (0, [SC.num .i64]) ∨ (g, cs) = (1, [SC.err]) ∨ (g, cs) = (2, [SC.err]) ∨ (g, cs) = (3, [SC.lit (.string ⟨#[121]⟩), SC.lit (.int .i64 1), SC.lit (.int .i64 (-1)), SC.lit (.int .i64 0), SC.lit (.string ⟨#[100]⟩), SC.lit (.int .i64 1), SC.lit (.int .i64 0), SC.lit (.int .i64 0), SC.lit (.string ⟨#[122]⟩), SC.lit (.int .i64 1), SC.lit (.int .i64 (-2)), SC.lit (.int .i64 1)]) ∨ (g, cs) = (6, Lib.pow10Tab.map fun z => SC.lit (.int .u64 z)) ∨ (g, cs) = (9, [SC.lit (.int .i64 1), SC.lit (.int .i64 1), SC.lit (.int .i64 0), SC.lit (.int .i64 1)]) := by
    rw [show cx.gl = [(0, [SC.num .i64]), (1, [SC.err]), (2, [SC.err]), (3, [SC.lit (.string ⟨#[121]⟩), SC.lit (.int .i64 1), SC.lit (.int .i64 (-1)), SC.lit (.int .i64 0), SC.lit (.string ⟨#[100]⟩), SC.lit (.int .i64 1), SC.lit (.int .i64 0), SC.lit (.int .i64 0), SC.lit (.string ⟨#[122]⟩), SC.lit (.int .i64 1), SC.lit (.int .i64 (-2)), SC.lit (.int .i64 1)]), (6, Lib.pow10Tab.map fun z => SC.lit (.int .u64 z)), (9, [SC.lit (.int .i64 1), SC.lit (.int .i64 1), SC.lit (.int .i64 0), SC.lit (.int .i64 1)])] by kernel_rfl] at hm0
    simpa only [List.mem_cons, List.not_mem_nil, or_false] using hm0
  rcases hm1 with e | e | e | e | e | e
  all_goals simp only [Prod.mk.injEq] at e
  all_goals obtain ⟨rfl, rfl⟩ := e
  · obtain ⟨⟨m, e⟩, e2⟩ := hm
    refine ⟨fun k x hk => ?_, fun _ => e2⟩
    match k, hk with
    | 0, hk => cases hk; exact ⟨_, e, .num ⟨m, rfl⟩⟩
    | k + 1, hk => cases hk
  · obtain ⟨⟨u, v, e⟩, e2⟩ := hy
    refine ⟨fun k x hk => ?_, fun _ => e2⟩
    match k, hk with
    | 0, hk => cases hk; exact ⟨_, e, .err ⟨u, v, rfl⟩⟩
    | k + 1, hk => cases hk
  · obtain ⟨⟨u, v, e⟩, e2⟩ := hz
    refine ⟨fun k x hk => ?_, fun _ => e2⟩
    match k, hk with
    | 0, hk => cases hk; exact ⟨_, e, .err ⟨u, v, rfl⟩⟩
    | k + 1, hk => cases hk
  · refine ⟨fun k x hk => ?_, fun _ => hq.2⟩
    match k, hk with
    | 0, hk => cases hk; exact ⟨_, hq.1 0 _ rfl, .lit rfl⟩
    | 1, hk => cases hk; exact ⟨_, hq.1 1 _ rfl, .lit rfl⟩
    | 2, hk => cases hk; exact ⟨_, hq.1 2 _ rfl, .lit rfl⟩
    | 3, hk => cases hk; exact ⟨_, hq.1 3 _ rfl, .lit rfl⟩
    | 4, hk => cases hk; exact ⟨_, hq.1 4 _ rfl, .lit rfl⟩
    | 5, hk => cases hk; exact ⟨_, hq.1 5 _ rfl, .lit rfl⟩
    | 6, hk => cases hk; exact ⟨_, hq.1 6 _ rfl, .lit rfl⟩
    | 7, hk => cases hk; exact ⟨_, hq.1 7 _ rfl, .lit rfl⟩
    | 8, hk => cases hk; exact ⟨_, hq.1 8 _ rfl, .lit rfl⟩
    | 9, hk => cases hk; exact ⟨_, hq.1 9 _ rfl, .lit rfl⟩
    | 10, hk => cases hk; exact ⟨_, hq.1 10 _ rfl, .lit rfl⟩
    | 11, hk => cases hk; exact ⟨_, hq.1 11 _ rfl, .lit rfl⟩
    | k + 12, hk => cases hk
  · refine ⟨fun k x hk => ?_, fun _ => by rw [List.length_map, Lib.pow10Tab_length]; exact hp.2⟩
    rw [List.getElem?_map] at hk
    cases hz : Lib.pow10Tab[k]? with
    | none => rw [hz] at hk; cases hk
    | some z =>
      rw [hz] at hk
      cases hk
      exact ⟨_, hp.1 k z hz, .lit rfl⟩
  · obtain ⟨e0, e1, e2, e3, e4⟩ := never_ok h'
    refine ⟨fun k x hk => ?_, fun _ => e4⟩
    match k, hk with
    | 0, hk => cases hk; exact ⟨_, e0, .lit rfl⟩
    | 1, hk => cases hk; exact ⟨_, e1, .lit rfl⟩
    | 2, hk => cases hk; exact ⟨_, e2, .lit rfl⟩
    | 3, hk => cases hk; exact ⟨_, e3, .lit rfl⟩
    | k + 4, hk => cases hk
end Go.Proofs.Tryz
namespace Go.Proofs.Tryz
open Go.Fw
def joinedTail (P : Program) (fn : Func) (s : ChangeSpec) (c : OpenClaim) : Bool :=
  (c.kinds == (if c.domain.isEmpty then [] else fn.params.toList.map fun t => match P.underlying t with | some (.int k) => some k | _ => none)) && (c.pinned == c.pinnedBy) && (c.veiled == (fn.params.toList ++ s.plain.varTypes P ++ fn.resultTypes.toList).any (P.veiledRec ·)) && c.veiledFits P fn.params.toList (fn.params.toList ++ s.plain.varTypes P ++ fn.resultTypes.toList)
theorem joined_of {P : Program} {f : FuncId} {fn : Func} {s : ChangeSpec} {c : OpenClaim}
    (a : (c.wf (OpenSpec.ofChange s) && laidOutB P && mapsRowed P && fn.params.all (P.readableRec ·) && namedTie P c.named s.vars && (c.stops == []) && (P.stops == []) && (c.knobs == []) && (P.stopKnobs == [])) = true)
    (b : (c.inPlace == P.inPlace f) = true) (d : (c.unfollowed == P.unfollowed f) = true) (e : (c.recurses == P.recurses f) = true) (g : (c.named == P.varsNamed f) = true)
    (h : ((c.maps == (fn.params.toList ++ s.plain.varTypes P).any (P.mapsRec ·)) && (c.ifaces == (fn.params.toList ++ s.plain.varTypes P).any (P.ifacesRec ·)) && (c.mapsOut == P.mapsAmong fn.resultTypes.toList) && (c.loops == (fn.params.toList ++ s.plain.varTypes P).any (P.loopsFrom ·)) && (c.wideKeys == (fn.params.toList ++ s.plain.varTypes P ++ fn.resultTypes.toList).any (P.wideKeysFrom ·)) && s.vars.all (P.varReadable ·) && fn.resultTypes.all (fun t => P.readableRec t && decide (t < P.types.size)) && (c.ifacesOut == fn.resultTypes.toList.any (P.ifacesRec ·)) && (c.loopsOut == fn.resultTypes.toList.any (P.loopsFrom ·))) = true)
    (i : (c.plainKeys == P.plainKeys) = true)
    (j : (c.shortTexts.isNone && P.stopsHeard && P.mayEnter && (c.lifted == P.liftsFinal) && (P.make == some c.make)) = true)
    (k : joinedTail P fn s c = true) :
    joinedFacts P f fn s c = true := by
  unfold joinedFacts
  simp only [joinedTail, Bool.and_eq_true] at a h j k ⊢
  obtain ⟨⟨⟨⟨⟨⟨⟨⟨a1, a2⟩, a3⟩, a4⟩, a5⟩, a6⟩, a7⟩, a8⟩, a9⟩ := a
  obtain ⟨⟨⟨⟨⟨⟨⟨⟨h1, h2⟩, h3⟩, h4⟩, h5⟩, h6⟩, h7⟩, h8⟩, h9⟩ := h
  obtain ⟨⟨⟨⟨j1, j2⟩, j3⟩, j4⟩, j5⟩ := j
  obtain ⟨⟨⟨k1, k2⟩, k3⟩, k4⟩ := k
  exact ⟨⟨⟨⟨⟨⟨⟨⟨⟨⟨⟨⟨⟨⟨⟨⟨⟨⟨⟨⟨⟨⟨⟨⟨⟨⟨⟨⟨⟨⟨⟨a1, a2⟩, a3⟩, a4⟩, a5⟩, a6⟩, a7⟩, a8⟩, a9⟩, b⟩, d⟩, e⟩, g⟩, h1⟩, h2⟩, h3⟩, h4⟩, h5⟩, h6⟩, h7⟩, h8⟩, h9⟩, i⟩, j1⟩, j2⟩, j3⟩, j4⟩, j5⟩, k1⟩, k2⟩, k3⟩, k4⟩
end Go.Proofs.Tryz
namespace Go.Proofs.Tryz
open Go.Fw Go.Plain
theorem fit_all {α : Type} {C : Ctx} {d : Nat} {t : TypeId} {f : α → List SC} {q : α → Prop} (hf : ∀ e, Fit C d t e → ∃ a, e = f a ∧ q a) : ∀ {es : List (List SC)}, (∀ e ∈ es, Fit C d t e) → ∃ l : List α, es = l.map f ∧ ∀ a ∈ l, q a
  | [], _ => ⟨[], rfl, by simp⟩
  | e :: es, h => by
    obtain ⟨a, rfl, ha⟩ := hf e (h e List.mem_cons_self)
    obtain ⟨l, rfl, hl⟩ := fit_all hf fun e he => h e (List.mem_cons_of_mem _ he)
    refine ⟨a :: l, rfl, fun b hb => ?_⟩
    rcases List.mem_cons.1 hb with rfl | hb
    · exact ha
    · exact hl b hb
theorem fit_tx {d : Nat} {xs : List SC} (h : Fit cx (d + 1) 9 xs) : ∃ s : Str, xs = [T s] ∧ s.length ≤ maxLen := by
  obtain ⟨s, e1, h1⟩ := fit_str (by rfl) (by rfl) h
  exact ⟨s.data.toList, by rw [e1, T, B_of], by simpa using h1⟩
theorem fit_in {d : Nat} {xs : List SC} (h : Fit cx (d + 1) 3 xs) : ∃ n : Int, xs = [J n] ∧ inI n := by
  obtain ⟨n, e1, h1⟩ := fit_i64 (by rfl) (by rfl) h
  exact ⟨n, e1, h1⟩
theorem fit_txs {d : Nat} {xs : List SC} (h : Fit cx (d + 2) 23 xs) : ∃ l : List Str, xs = [.view (strs l)] ∧ l.length ≤ maxLen := by
  obtain ⟨es, rfl, hl, hes⟩ := fit_view (by rfl) (by rfl) (by rfl) h
  obtain ⟨l, rfl, _⟩ := fit_all (f := fun s : Str => [T s]) (fun e he => fit_tx he) hes
  exact ⟨l, rfl, by simpa using hl⟩
theorem fit_person {d : Nat} {xs : List SC} (h : Fit cx (d + 2) 85 xs) : ∃ q : Str × Int, xs = peC q ∧ inI q.2 := by
  obtain ⟨p1, q1, e1, h1, p2, q2, e2, h2, e3⟩ := fit_struct (by rfl) (by rfl) h
  obtain ⟨s, rfl, _⟩ := fit_tx h1
  obtain ⟨n, rfl, hn⟩ := fit_in h2
  exact ⟨(s, n), by rw [e1, e2, e3]; rfl, hn⟩
theorem fit_range {d : Nat} {xs : List SC} (h : Fit cx (d + 2) 87 xs) : ∃ a b : Int, xs = [J a, J b] := by
  obtain ⟨p1, q1, e1, h1, p2, q2, e2, h2, e3⟩ := fit_struct (by rfl) (by rfl) h
  obtain ⟨a, rfl, _⟩ := fit_in h1
  obtain ⟨b, rfl, _⟩ := fit_in h2
  exact ⟨a, b, by rw [e1, e2, e3]; rfl⟩
theorem fit_test {d : Nat} {xs : List SC} (h : Fit cx (d + 3) 89 xs) : ∃ t : Ts, xs = tsC t ∧ t.needs.length ≤ maxLen := by
  obtain ⟨p1, q1, e1, h1, p2, q2, e2, h2, p3, q3, e3, h3, p4, q4, e4, h4, p5, q5, e5, h5, e6⟩ := fit_struct (by rfl) (by rfl) h
  obtain ⟨nm, rfl, _⟩ := fit_tx h1
  obtain ⟨k, rfl, _⟩ := fit_in h2
  obtain ⟨nd, rfl, hl⟩ := fit_txs h3
  obtain ⟨ru, rfl, _⟩ := fit_tx h4
  obtain ⟨a, b, rfl⟩ := fit_range h5
  exact ⟨⟨nm, k, nd, ru, a, b⟩, by rw [e1, e2, e3, e4, e5, e6]; rfl, hl⟩
theorem fit_part {d : Nat} {xs : List SC} (h : Fit cx (d + 3) 92 xs) : ∃ q : Str × List Str, xs = ptC q ∧ q.2.length ≤ maxLen := by
  obtain ⟨p1, q1, e1, h1, p2, q2, e2, h2, e3⟩ := fit_struct (by rfl) (by rfl) h
  obtain ⟨s, rfl, _⟩ := fit_tx h1
  obtain ⟨l, rfl, hl⟩ := fit_txs h2
  exact ⟨(s, l), by rw [e1, e2, e3]; rfl, hl⟩
def plOk (p : Pl) : Prop := (p.people.length ≤ 9223372036854775807 ∧ p.gates.length ≤ 9223372036854775807 ∧ p.tests.length ≤ 9223372036854775807 ∧ p.parts.length ≤ 9223372036854775807) ∧ (∀ t ∈ p.tests, t.needs.length ≤ 9223372036854775807) ∧ ∀ q ∈ p.parts, q.2.length ≤ 9223372036854775807
theorem fit_plant {d : Nat} {x : SV} (h : FitV cx (d + 5) 27 x) : ∃ p : Pl, x = (true, plC p) ∧ plOk p := by
  obtain ⟨e, h1⟩ := fitV_agg rfl rfl h
  obtain ⟨p1, q1, e1, h1, p2, q2, e2, h2, p3, q3, e3, h3, p4, q4, e4, h4, p5, q5, e5, h5, p6, q6, e6, h6, e7⟩ := fit_struct (by rfl) (by rfl) h1
  obtain ⟨es1, rfl, hl1, hes1⟩ := fit_view (by rfl) (by rfl) (by rfl) h1
  obtain ⟨pe, rfl, _⟩ := fit_all (f := peC) (fun e he => fit_person he) hes1
  obtain ⟨ga, rfl, hl2⟩ := fit_txs h2
  obtain ⟨es3, rfl, hl3, hes3⟩ := fit_view (by rfl) (by rfl) (by rfl) h3
  obtain ⟨te, rfl, ht⟩ := fit_all (f := tsC) (fun e he => fit_test he) hes3
  obtain ⟨es4, rfl, hl4, hes4⟩ := fit_view (by rfl) (by rfl) (by rfl) h4
  obtain ⟨pa, rfl, hp⟩ := fit_all (f := ptC) (fun e he => fit_part he) hes4
  obtain ⟨sh, rfl, _⟩ := fit_in h5
  obtain ⟨li, rfl, _⟩ := fit_in h6
  refine ⟨⟨pe, ga, te, pa, sh, li⟩, by rw [e, e1, e2, e3, e4, e5, e6, e7]; rfl, ⟨by rw [List.length_map] at hl1; exact hl1, hl2, by rw [List.length_map] at hl3; exact hl3, by rw [List.length_map] at hl4; exact hl4⟩, ht, hp⟩
theorem fit_name {d : Nat} {x : SV} (h : FitV cx (d + 1) 9 x) : ∃ s : Str, x = SS s ∧ s.length ≤ maxLen := by
  obtain ⟨e, h1⟩ := fitV_one rfl rfl h
  obtain ⟨s, e1, hs⟩ := fit_tx h1
  exact ⟨s, by rw [e, e1], hs⟩
theorem at_mem {α : Type} {l : List α} {i : Nat} (h : i < l.length) (d : α) : l.getD i d ∈ l := by
  rw [List.getD_eq_getElem?_getD, List.getElem?_eq_getElem h]; exact List.getElem_mem h
end Go.Proofs.Tryz
