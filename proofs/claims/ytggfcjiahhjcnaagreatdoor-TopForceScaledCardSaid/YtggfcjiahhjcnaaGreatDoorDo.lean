/- The table of kinds, the tables and errors of the library hold what their text lays; one number holds some number. -/
import Derived.Test.YtggfcjiahhjcnaaGreatDoorCx
import Derived.Test.YtggfcjiahhjcnaaGreatDoorFc
import Derived.Test.YtggfcjiahhjcnaaGreatDoorRows
import Derived.LaidMore
import Derived.LaidSub
import Derived.LaidLaws
import Derived.LaidHandle
import Derived.Stop.Joined
import Derived.Lay
import Derived.Lib.ItoaNum
import Derived.Shelf.Vars
import Derived.Test.YtggfcjiahhjcnaaGreatDoorWa
namespace Go.Proofs.Tryz
open Go.Fw Go.ChangeShapes Go.WideShapes Go.ChangeAt Go.RowKit
set_option maxRecDepth 100000
abbrev laid7 : List (String × DataW Unit) := [("math/bits.deBruijn32tab", Go.Proofs.YtggfcjiahhjcnaaGreatDoor.Rows.laid_math_bits_deBruijn32tab), ("math/bits.deBruijn64tab", Go.Proofs.YtggfcjiahhjcnaaGreatDoor.Rows.laid_math_bits_deBruijn64tab), ("internal/strconv.uint64pow10", Go.Proofs.YtggfcjiahhjcnaaGreatDoor.Rows.laid_internal_strconv_uint64pow10), ("unicode/utf8.acceptRanges", Go.Proofs.YtggfcjiahhjcnaaGreatDoor.Rows.laid_unicode_utf8_acceptRanges), ("strconv.ErrRange", Go.Proofs.YtggfcjiahhjcnaaGreatDoor.Rows.laid_strconv_ErrRange), ("strconv.ErrSyntax", Go.Proofs.YtggfcjiahhjcnaaGreatDoor.Rows.laid_strconv_ErrSyntax), ("unicode/utf8.first", Go.Proofs.YtggfcjiahhjcnaaGreatDoor.Rows.laid_unicode_utf8_first)]
abbrev laidD : List (String × DataW Unit) := [("math/bits.deBruijn32tab", Go.Proofs.YtggfcjiahhjcnaaGreatDoor.Rows.laid_math_bits_deBruijn32tab), ("math/bits.deBruijn64tab", Go.Proofs.YtggfcjiahhjcnaaGreatDoor.Rows.laid_math_bits_deBruijn64tab), ("internal/strconv.uint64pow10", Go.Proofs.YtggfcjiahhjcnaaGreatDoor.Rows.laid_internal_strconv_uint64pow10), ("unicode/utf8.acceptRanges", Go.Proofs.YtggfcjiahhjcnaaGreatDoor.Rows.laid_unicode_utf8_acceptRanges), ("strconv.ErrRange", Go.Proofs.YtggfcjiahhjcnaaGreatDoor.Rows.laid_strconv_ErrRange), ("strconv.ErrSyntax", Go.Proofs.YtggfcjiahhjcnaaGreatDoor.Rows.laid_strconv_ErrSyntax), ("buchholz/force.kinds", Go.Proofs.YtggfcjiahhjcnaaGreatDoor.Rows.laid_buchholz_force_kinds), ("unicode/utf8.first", Go.Proofs.YtggfcjiahhjcnaaGreatDoor.Rows.laid_unicode_utf8_first)]
theorem own : ownKnob prog.godebug = none := by kernel_rfl
theorem laidOut : laidOutB prog = true := by kernel_rfl
/-- A world in which the table of kinds lies, and then one in which all lies. -/
noncomputable def kindsW (os : Os) : World := { World.holding prog os ⟨#[], #[], []⟩ with heap := (World.holding prog os ⟨#[], #[], []⟩).heap.setIfInBounds 0 (.cells #[.func (.func 130) #[] #[], .int .i64 0, .func (.func 130) #[] #[], .int .i64 1, .func (.func 131) #[] #[], .int .i64 0, .func (.func 131) #[] #[], .int .i64 1] 99) }
noncomputable def allW (os : Os) : World := (kindsW os).layVars prog laid7
theorem allW_os (os : Os) : (allW os).os = os := World.layVars_os _ _ _
theorem met7 (os : Os) : laidMet prog laid7 (allW os) :=
  laidMet_layVars (w0 := kindsW os) (laid7.map (·.1)) [] rfl (by kernel_rfl) (by kernel_rfl) LaidIn.none
theorem door_met (os : Os) (args : Array Value) : laidMetH prog laidD ((allW os).forCall (fun _ _ => 0) ⟨#[], args, []⟩).memory :=
  (laidMetH_of_parts3 (l := laidD) (w := allW os) (fuel := 8) (by rw [show (laidD.filter fun x => x.2.handleName?.isNone) = laid7 by kernel_rfl]; exact met7 os) (by kernel_rfl) (by kernel_rfl)).of_heap (by simp [World.memory, World.forCall, Input.heap])
theorem laid_plain {W : World} (h : laidMetH prog laidD W) : laidMet prog laid7 W := (laidMetH_iff.1 h).1
theorem kind_of {w : World} {m : Nat} {f0 : FuncId} {l : List Value} {b : UInt8} {r : List UInt8} {j : Int} {x : DataW (List UInt8) × List MemPlace}
    (hone : ((List.range prog.funcs.size).filter fun f => (prog.funcs[f]?).any (·.name.toUTF8.data.toList == b :: r)) = [f0])
    (hd : DataW.trod (funcToken prog) prog w 0 (fun _ => true) true m 98 l = some x) (hx : x.1 = .agg [.held (b :: r), .lit (.int .i64 j)]) : l = [.func (.func f0) #[] #[], .int .i64 j] := by
  obtain ⟨xs, n, rfl, rfl, hlen, hxl, hel⟩ := DataW.trod_struct underlying98 hd
  have c2 : prog.cellsOf 98 = 2 := by kernel_rfl
  have c1 : prog.cellsOf 96 = 1 := by kernel_rfl
  have c3 : prog.cellsOf 3 = 1 := by kernel_rfl
  rw [c2] at hlen
  simp only [DataW.agg.injEq] at hx
  match l, hlen, xs, hx with
  | [v0, v1], _, [x0, x1], hx =>
    simp only [List.map_cons, List.map_nil, List.cons.injEq, and_true] at hx
    have h0 := hel 0 _ rfl
    have h1 := hel 1 _ rfl
    change DataW.trod (funcToken prog) prog w 0 (fun _ => true) true n 96 (List.take (prog.cellsOf 96) (List.drop 0 [v0, v1])) = some x0 at h0
    change DataW.trod (funcToken prog) prog w 0 (fun _ => true) true n 3 (List.take (prog.cellsOf 3) (List.drop 1 [v0, v1])) = some x1 at h1
    rw [c1] at h0
    rw [c3] at h1
    simp only [List.drop_zero, List.take_succ_cons, List.take_zero, List.drop_succ_cons] at h0 h1
    obtain ⟨d0, q0⟩ := x0
    obtain ⟨d1, q1⟩ := x1
    obtain ⟨rfl, rfl⟩ := hx
    obtain rfl := Go.func_of_trod underlying96 hone h0
    obtain ⟨k, e1, e2, _⟩ := DataW.trod_int underlying3 h1
    simp only [List.cons.injEq, and_true] at e1
    simp only [Prod.mk.injEq, DataW.lit.injEq, Lit.int.injEq, true_and] at e2
    rw [e1, ← e2.1]
theorem rep_fn (f : FuncId) : Rep nomem nomem (.func (.func f) #[] #[]) (.fn f [] []) :=
  .fn #[] #[] (fun _ => #[]) rfl rfl (by simp) (by simp) (by simp) (by simp) (by simp)
theorem kinds_at {W : World} (h : laidMetH prog laidD W) : ∃ cs : Array Value, cs.toList = [.func (.func 130) #[] #[], .int .i64 0, .func (.func 130) #[] #[], .int .i64 1, .func (.func 131) #[] #[], .int .i64 0, .func (.func 131) #[] #[], .int .i64 1] ∧ ∀ k, rd W 0 k = cs[k]? := by
  obtain ⟨g, t, cs, fuel, p, hg, ht, hv, hd⟩ := h.funcs (n := "buchholz/force.kinds") (.tail _ (.tail _ (.tail _ (.tail _ (.tail _ (.tail _ (.head _)))))))
  obtain rfl := Option.some.inj ((show prog.globalNamed "buchholz/force.kinds" = some 0 by kernel_rfl).symm.trans hg)
  obtain rfl := Option.some.inj ((show (prog.globals[0]?).map (·.type) = some 99 by kernel_rfl).symm.trans ht)
  obtain ⟨xs, m, rfl, hx, hlen, hxl, hel⟩ := DataW.trod_array underlying99 hd
  have c8 : prog.cellsOf 99 = 8 := by kernel_rfl
  have c2 : prog.cellsOf 98 = 2 := by kernel_rfl
  rw [c8] at hlen
  simp only [c2] at hel
  have hx1 : DataW.agg (xs.map (·.1)) = DataW.agg [_, _, _, _] := (congrArg Prod.fst hx).symm
  simp only [DataW.agg.injEq] at hx1
  match xs, hxl, hx1, hel with
  | [x0, x1, x2, x3], _, hx1, hel =>
    simp only [List.map_cons, List.map_nil, List.cons.injEq, and_true] at hx1
    obtain ⟨y0, y1, y2, y3⟩ := hx1
    have k0 := kind_of (f0 := 130) (by kernel_rfl) (hel 0 (by decide)) y0
    have k1 := kind_of (f0 := 130) (by kernel_rfl) (hel 1 (by decide)) y1
    have k2 := kind_of (f0 := 131) (by kernel_rfl) (hel 2 (by decide)) y2
    have k3 := kind_of (f0 := 131) (by kernel_rfl) (hel 3 (by decide)) y3
    obtain ⟨l⟩ := cs
    match l, hlen with
    | [v0, v1, v2, v3, v4, v5, v6, v7], _ =>
      simp at k0 k1 k2 k3
      obtain ⟨rfl, rfl⟩ := k0
      obtain ⟨rfl, rfl⟩ := k1
      obtain ⟨rfl, rfl⟩ := k2
      obtain ⟨rfl, rfl⟩ := k3
      exact ⟨_, rfl, fun k => World.var?_cell hg hv k⟩
theorem kinds_ok {W : World} (h : laidMetH prog laidD W) (k : Nat) (x : SC) (hk : ([SC.fn 130 [] [], SC.lit (.int .i64 0), SC.fn 130 [] [], SC.lit (.int .i64 1), SC.fn 131 [] [], SC.lit (.int .i64 0), SC.fn 131 [] [], SC.lit (.int .i64 1)])[k]? = some x) : ∃ v, rd W 0 k = some v ∧ Rep nomem nomem v x := by
  obtain ⟨⟨l⟩, rfl, hc⟩ := kinds_at h
  have hc := hc k
  match k, hk with
  | 0, hk => simp at hk; subst hk; exact ⟨_, hc, rep_fn _⟩
  | 1, hk => simp at hk; subst hk; exact ⟨_, hc, .lit rfl⟩
  | 2, hk => simp at hk; subst hk; exact ⟨_, hc, rep_fn _⟩
  | 3, hk => simp at hk; subst hk; exact ⟨_, hc, .lit rfl⟩
  | 4, hk => simp at hk; subst hk; exact ⟨_, hc, rep_fn _⟩
  | 5, hk => simp at hk; subst hk; exact ⟨_, hc, .lit rfl⟩
  | 6, hk => simp at hk; subst hk; exact ⟨_, hc, rep_fn _⟩
  | 7, hk => simp at hk; subst hk; exact ⟨_, hc, .lit rfl⟩
  | k + 8, hk => simp at hk
theorem kinds_end {W : World} (h : laidMetH prog laidD W) : rd W 0 8 = none := by
  obtain ⟨⟨l⟩, rfl, hc⟩ := kinds_at h
  exact hc 8
theorem pow_ok {W : World} (h : laidMet prog laid7 W) : (∀ k z, Lib.pow10Tab[k]? = some z → rd W 4 k = some (.int .u64 z)) ∧ rd W 4 20 = none := by
  have h1 : laidMet prog [("internal/strconv.uint64pow10", Go.Proofs.YtggfcjiahhjcnaaGreatDoor.Rows.laid_internal_strconv_uint64pow10)] W := (h.filter fun x => x.1 == "internal/strconv.uint64pow10")
  obtain ⟨ps, ⟨g, t, cs, fuel, p, q, hg, ht, hv, hd, _, _⟩, _, _⟩ := h1
  obtain rfl := Option.some.inj ((show prog.globalNamed "internal/strconv.uint64pow10" = some 4 by kernel_rfl).symm.trans hg)
  obtain rfl := Option.some.inj ((show (prog.globals[4]?).map (·.type) = some 145 by kernel_rfl).symm.trans ht)
  obtain ⟨xs, m, rfl, hx, hlen, hxl, hel⟩ := DataW.trod_array underlying145 hd
  have c1 : prog.cellsOf 110 = 1 := by kernel_rfl
  have c20 : prog.cellsOf 145 = 20 := by kernel_rfl
  rw [c20] at hlen
  simp only [c1] at hel
  have hx1 : DataW.agg (xs.map (·.1)) = DataW.agg (Lib.pow10Tab.map fun z => DataW.lit (.int .u64 z)) := (congrArg Prod.fst hx).symm
  simp only [DataW.agg.injEq] at hx1
  have key : ∀ (k : Nat) (z : Int), Lib.pow10Tab[k]? = some z → cs.toList[k]? = some (Value.int .u64 z) := by
    intro k z hz
    have hk : k < 20 := by
      have := (List.getElem?_eq_some_iff.1 hz).1
      rwa [Lib.pow10Tab_length] at this
    have hy : (xs[k]?).map (·.1) = some (DataW.lit (.int .u64 z)) := by
      rw [← List.getElem?_map, hx1, List.getElem?_map, hz]; rfl
    cases hxk : xs[k]? with
    | none => rw [hxk] at hy; cases hy
    | some y =>
      rw [hxk] at hy
      have e := hel k hk
      obtain ⟨d, r⟩ := y
      simp only [Option.map_some, Option.some.injEq] at hy
      subst hy
      rw [hxk] at e
      obtain ⟨n, e1, e2, _⟩ := DataW.trod_int underlying110 e
      simp only [Prod.mk.injEq, DataW.lit.injEq, Lit.int.injEq, true_and] at e2
      have e3 : (List.take 1 (List.drop (k * 1) cs.toList))[0]? = cs.toList[k]? := by simp
      rw [← e3, e1, ← e2.1]; rfl
  refine ⟨fun k z hz => ?_, ?_⟩
  · show W.cell? ⟨4, k, none⟩ = _
    rw [World.var?_cell hg hv k, ← Array.getElem?_toList]; exact key k z hz
  · show W.cell? ⟨4, 20, none⟩ = _
    rw [World.var?_cell hg hv 20, ← Array.getElem?_toList, List.getElem?_eq_none (by omega)]
theorem err_ok {W : World} {n : String} {b : DataW Unit} {g0 : Nat} (h1 : laidMet prog [(n, .iface "*errors.errorString" b)] W) (hg0 : prog.globalNamed n = some g0) (ht0 : (prog.globals[g0]?).map (·.type) = some 83) :
    (∃ u v, rd W g0 0 = some (.iface u v)) ∧ rd W g0 1 = none := by
  obtain ⟨ps, ⟨g, t, cs, fuel, p, q, hg, ht, hv, hd, _, _⟩, _, _⟩ := h1
  obtain rfl := Option.some.inj (hg0.symm.trans hg)
  obtain rfl := Option.some.inj (ht0.symm.trans ht)
  obtain ⟨ms, hu⟩ : ∃ ms, prog.underlying 83 = some (.interface ms) := ⟨_, underlying83⟩
  obtain ⟨_, u, v, e, _, _⟩ := iface_of_trod hu hd
  refine ⟨⟨u, v, ?_⟩, ?_⟩
  · show W.cell? ⟨g0, 0, none⟩ = _
    rw [World.var?_cell hg hv 0, ← Array.getElem?_toList, e]; rfl
  · show W.cell? ⟨g0, 1, none⟩ = _
    rw [World.var?_cell hg hv 1, ← Array.getElem?_toList, e]; rfl
theorem max_zero : ((begin prog (fun _ _ => 0) default).world.heap[1]?).bind Obj.row? = some (#[.int .i64 0], 3) := by kernel_rfl
theorem max_ok {W : World} (h : W.ShapedOpen prog) : (∃ m, rd W 1 0 = some (.int .i64 m)) ∧ rd W 1 1 = none := by
  refine ⟨cell_of_shapedOpen_int h (by decide) max_zero rfl (by kernel_rfl) (by kernel_rfl) (by kernel_rfl), ?_⟩
  obtain ⟨cs, hh, hs, _⟩ := h.1 1 _ _ (by decide) max_zero
  have h1 : cs.size = 1 := hs
  show W.cell? ⟨1, 1, none⟩ = none
  simp [World.cell?, hh, h1]
theorem glob_ok {W : World} (h : laidMetH prog laidD W) (hs : W.ShapedOpen prog) : GlobOK cx.gl (rd W) := by
  have h' := laid_plain h
  have hp := pow_ok h'
  have hm := max_ok hs
  have hy := err_ok (W := W) (h'.filter fun x => x.1 == "strconv.ErrSyntax") (g0 := 2) (by kernel_rfl) (by kernel_rfl)
  have hz := err_ok (W := W) (h'.filter fun x => x.1 == "strconv.ErrRange") (g0 := 3) (by kernel_rfl) (by kernel_rfl)
  intro g cs hm0
  have hm1 : (g, cs) = (0, [SC.fn 130 [] [], SC.lit (.int .i64 0), SC.fn 130 [] [], SC.lit (.int .i64 1), SC.fn 131 [] [], SC.lit (.int .i64 0), SC.fn 131 [] [], SC.lit (.int .i64 1)]) ∨ (g, cs) = (1, [SC.num .i64]) ∨ (g, cs) = (2, [SC.err]) ∨ (g, cs) = (3, [SC.err]) ∨ (g, cs) = (4, Lib.pow10Tab.map fun z => SC.lit (.int .u64 z)) := by
    rw [show cx.gl = [(0, [SC.fn 130 [] [], SC.lit (.int .i64 0), SC.fn 130 [] [], SC.lit (.int .i64 1), SC.fn 131 [] [], SC.lit (.int .i64 0), SC.fn 131 [] [], SC.lit (.int .i64 1)]), (1, [SC.num .i64]), (2, [SC.err]), (3, [SC.err]), (4, Lib.pow10Tab.map fun z => SC.lit (.int .u64 z))] by kernel_rfl] at hm0
    simpa only [List.mem_cons, List.not_mem_nil, or_false] using hm0
  rcases hm1 with e | e | e | e | e
  all_goals simp only [Prod.mk.injEq] at e
  all_goals obtain ⟨rfl, rfl⟩ := e
  · refine ⟨fun k x hk => ?_, fun _ => kinds_end h⟩
    exact kinds_ok h k x hk
  · obtain ⟨⟨m, e⟩, e2⟩ := hm
    refine ⟨fun k x hk => ?_, fun _ => e2⟩
    match k, hk with
    | 0, hk => cases hk; exact ⟨_, e, .num ⟨m, rfl⟩⟩
    | k + 1, hk => cases hk
  · obtain ⟨⟨u, v, e⟩, e2⟩ := hy
    refine ⟨fun k x hk => ?_, fun _ => e2⟩
    match k, hk with
    | 0, hk => cases hk; exact ⟨_, e, .err ⟨u, v, rfl⟩⟩
    | k + 1, hk => cases hk
  · obtain ⟨⟨u, v, e⟩, e2⟩ := hz
    refine ⟨fun k x hk => ?_, fun _ => e2⟩
    match k, hk with
    | 0, hk => cases hk; exact ⟨_, e, .err ⟨u, v, rfl⟩⟩
    | k + 1, hk => cases hk
  · refine ⟨fun k x hk => ?_, fun _ => by rw [List.length_map, Lib.pow10Tab_length]; exact hp.2⟩
    rw [List.getElem?_map] at hk
    cases hz : Lib.pow10Tab[k]? with
    | none => rw [hz] at hk; cases hk
    | some z =>
      rw [hz] at hk
      cases hk
      exact ⟨_, hp.1 k z hz, .lit rfl⟩
end Go.Proofs.Tryz

/- Arguments of chapter 5 that fit their types. -/
namespace Go.Proofs.Tryz
open Go.Fw
theorem fit_window {x : SV} (h : FitV cx 4 24 x) : ∃ a b : List Int, x = (true, [.ints a, .ints b]) ∧ a.length ≤ maxLen ∧ b.length ≤ maxLen := by
  obtain ⟨e, h1⟩ := fitV_agg rfl rfl h
  obtain ⟨p, q, e1, h2, p', q', e2, h3, e3⟩ := fit_struct (by rfl) (by rfl) h1
  obtain ⟨l, rfl, l1, _⟩ := fit_ints (by rfl) (by rfl) (by rfl) h2
  obtain ⟨l', rfl, l1', _⟩ := fit_ints (by rfl) (by rfl) (by rfl) h3
  refine ⟨l, l', ?_, l1, l1'⟩
  rw [e, e1, e2, e3]; rfl
theorem fit_oneInt {x : SV} (h : FitV cx 4 3 x) : ∃ n : Int, x = I n ∧ inI n := by
  obtain ⟨e, h1⟩ := fitV_one rfl rfl h
  obtain ⟨n, e1, h2, h3⟩ := fit_i64 (by rfl) (by rfl) h1
  exact ⟨n, by rw [e, e1], h2, h3⟩
theorem fit_two {C : Ctx} {d : Nat} {t a b : TypeId} {i j k : TI} {xs : List SC} {o1 o2 : Nat} (hi : C.ti t = some i) (hk : i.cls = .struct [(o1, a), (o2, b)]) (ha : C.ti a = some j) (hb : C.ti b = some k) (ja : j.cls = .int .i64) (kb : k.cls = .int .i64) (h : Fit C (d + 2) t xs) : ∃ p q : Int, xs = [.lit (.int .i64 p), .lit (.int .i64 q)] ∧ inI p ∧ inI q := by
  obtain ⟨p, q, rfl, h2, p', q', rfl, h3, rfl⟩ := fit_struct hi hk h
  obtain ⟨n, rfl, n1, n2⟩ := fit_i64 ha ja h2
  obtain ⟨m, rfl, m1, m2⟩ := fit_i64 hb kb h3
  exact ⟨n, m, rfl, ⟨n1, n2⟩, ⟨m1, m2⟩⟩
theorem fit_fault {x : SV} (h : FitV cx 4 30 x) : ∃ a b c d n m : Int, x = F6 a b c d n m ∧ inI n ∧ inI m := by
  obtain ⟨e, h1⟩ := fitV_agg rfl rfl h
  obtain ⟨p, q, e1, h2, p', q', e2, h3, p2, q2, e3, h4, e4⟩ := fit_struct (by rfl) (by rfl) h1
  obtain ⟨a, b, rfl, _⟩ := fit_two (by rfl) (by rfl) (by rfl) (by rfl) (by rfl) (by rfl) h2
  obtain ⟨c, d, rfl, _⟩ := fit_two (by rfl) (by rfl) (by rfl) (by rfl) (by rfl) (by rfl) h3
  obtain ⟨n, m, rfl, hn, hm⟩ := fit_two (by rfl) (by rfl) (by rfl) (by rfl) (by rfl) (by rfl) h4
  refine ⟨a, b, c, d, n, m, ?_, hn, hm⟩
  rw [e, e1, e2, e3, e4]; rfl
end Go.Proofs.Tryz
