/- The tables and errors of the library hold what their text lays; one number holds some number. -/
import Derived.Test.YtggfcjiahhjcnabGreatDoorCx
import Derived.Test.YtggfcjiahhjcnabGreatDoorFc
import Derived.Test.YtggfcjiahhjcnabGreatDoorRows
import Derived.LaidMore
import Derived.LaidSub
import Derived.LaidLaws
import Derived.Stop.Joined
import Derived.Lay
import Derived.Lib.ItoaNum
import Derived.Shelf.Vars
import Derived.Test.YtggfcjiahhjcnabGreatDoorVa
import Derived.Test.YtggfcjiahhjcnabGreatDoorFe
namespace Go.Proofs.Tryz
open Go.Fw Go.ChangeShapes Go.WideShapes Go.ChangeAt Go.RowKit
set_option maxRecDepth 100000
abbrev laidD : List (String × DataW Unit) := [("math/bits.deBruijn32tab", Go.Proofs.YtggfcjiahhjcnabGreatDoor.Rows.laid_math_bits_deBruijn32tab), ("math/bits.deBruijn64tab", Go.Proofs.YtggfcjiahhjcnabGreatDoor.Rows.laid_math_bits_deBruijn64tab), ("internal/strconv.uint64pow10", Go.Proofs.YtggfcjiahhjcnabGreatDoor.Rows.laid_internal_strconv_uint64pow10), ("unicode/utf8.acceptRanges", Go.Proofs.YtggfcjiahhjcnabGreatDoor.Rows.laid_unicode_utf8_acceptRanges), ("strconv.ErrRange", Go.Proofs.YtggfcjiahhjcnabGreatDoor.Rows.laid_strconv_ErrRange), ("strconv.ErrSyntax", Go.Proofs.YtggfcjiahhjcnabGreatDoor.Rows.laid_strconv_ErrSyntax), ("buchholz/wave.never", Go.Proofs.YtggfcjiahhjcnabGreatDoor.Rows.laid_buchholz_wave_never), ("unicode/utf8.first", Go.Proofs.YtggfcjiahhjcnabGreatDoor.Rows.laid_unicode_utf8_first)]
theorem own : ownKnob prog.godebug = none := by kernel_rfl
theorem laidOut : laidOutB prog = true := by kernel_rfl
theorem plainH {W : World} (h : laidMet prog laidD W) : laidMetH prog laidD W := by
  unfold laidMetH
  rw [show (laidD.filter fun x => x.2.handleName?.isSome) = [] by kernel_rfl]
  exact h
theorem door_met (os : Os) (args : Array Value) : laidMetH prog laidD ((World.laidAll prog os laidD).forCall (fun _ _ => 0) ⟨#[], args, []⟩).memory :=
  plainH (laidMet_laidAll _ (by kernel_rfl) (by kernel_rfl))
theorem laid_plain {W : World} (h : laidMetH prog laidD W) : laidMet prog laidD W := (laidMetH_iff.1 h).1
theorem frac_of {w : World} {m : Nat} {l : List Value} {i j : Int} {x : DataW Unit × List MemPlace}
    (hd : DataW.trod (fun _ => ()) prog w 0 (fun _ => true) false m 23 l = some x) (hx : x.1 = .agg [.lit (.int .i64 i), .lit (.int .i64 j)]) : l = [.int .i64 i, .int .i64 j] := by
  obtain ⟨xs, n, rfl, rfl, hlen, hxl, hel⟩ := DataW.trod_struct underlying23 hd
  have c2 : prog.cellsOf 23 = 2 := by kernel_rfl
  have c3 : prog.cellsOf 3 = 1 := by kernel_rfl
  rw [c2] at hlen
  simp only [DataW.agg.injEq] at hx
  match l, hlen, xs, hx with
  | [v0, v1], _, [x0, x1], hx =>
    simp only [List.map_cons, List.map_nil, List.cons.injEq, and_true] at hx
    have h0 := hel 0 _ rfl
    have h1 := hel 1 _ rfl
    change DataW.trod (fun _ => ()) prog w 0 (fun _ => true) false n 3 (List.take (prog.cellsOf 3) (List.drop 0 [v0, v1])) = some x0 at h0
    change DataW.trod (fun _ => ()) prog w 0 (fun _ => true) false n 3 (List.take (prog.cellsOf 3) (List.drop 1 [v0, v1])) = some x1 at h1
    rw [c3] at h0 h1
    simp only [List.drop_zero, List.take_succ_cons, List.take_zero, List.drop_succ_cons] at h0 h1
    obtain ⟨d0, q0⟩ := x0
    obtain ⟨d1, q1⟩ := x1
    obtain ⟨rfl, rfl⟩ := hx
    obtain ⟨k0, e0, f0, _⟩ := DataW.trod_int underlying3 h0
    obtain ⟨k1, e1, f1, _⟩ := DataW.trod_int underlying3 h1
    simp only [List.cons.injEq, and_true] at e0 e1
    simp only [Prod.mk.injEq, DataW.lit.injEq, Lit.int.injEq, true_and] at f0 f1
    rw [e0, e1, ← f0.1, ← f1.1]
theorem never_ok {W : World} (h : laidMet prog laidD W) : rd W 0 0 = some (.int .i64 1) ∧ rd W 0 1 = some (.int .i64 1) ∧ rd W 0 2 = some (.int .i64 0) ∧ rd W 0 3 = some (.int .i64 1) ∧ rd W 0 4 = none := by
  have h1 : laidMet prog [("buchholz/wave.never", Go.Proofs.YtggfcjiahhjcnabGreatDoor.Rows.laid_buchholz_wave_never)] W := (h.filter fun x => x.1 == "buchholz/wave.never")
  obtain ⟨ps, ⟨g, t, cs, fuel, p, q, hg, ht, hv, hd, _, _⟩, _, _⟩ := h1
  obtain rfl := Option.some.inj ((show prog.globalNamed "buchholz/wave.never" = some 0 by kernel_rfl).symm.trans hg)
  obtain rfl := Option.some.inj ((show (prog.globals[0]?).map (·.type) = some 86 by kernel_rfl).symm.trans ht)
  obtain ⟨xs, m, rfl, hx, hlen, hxl, hel⟩ := DataW.trod_struct underlying86 hd
  have c4 : prog.cellsOf 86 = 4 := by kernel_rfl
  have c2 : prog.cellsOf 23 = 2 := by kernel_rfl
  rw [c4] at hlen
  have hx1 : DataW.agg (xs.map (·.1)) = DataW.agg [_, _] := (congrArg Prod.fst hx).symm
  simp only [DataW.agg.injEq] at hx1
  obtain ⟨l⟩ := cs
  match xs, hx1, l, hlen with
  | [x0, x1], hx1, [v0, v1, v2, v3], _ =>
    simp only [List.map_cons, List.map_nil, List.cons.injEq, and_true] at hx1
    obtain ⟨y0, y1⟩ := hx1
    have h0 := hel 0 _ rfl
    have h1 := hel 1 _ rfl
    change DataW.trod (fun _ => ()) prog W 0 (fun _ => true) false m 23 (List.take (prog.cellsOf 23) (List.drop 0 [v0, v1, v2, v3])) = some x0 at h0
    change DataW.trod (fun _ => ()) prog W 0 (fun _ => true) false m 23 (List.take (prog.cellsOf 23) (List.drop 2 [v0, v1, v2, v3])) = some x1 at h1
    rw [c2] at h0 h1
    have k0 := frac_of h0 y0
    have k1 := frac_of h1 y1
    simp at k0 k1
    obtain ⟨rfl, rfl⟩ := k0
    obtain ⟨rfl, rfl⟩ := k1
    exact ⟨World.var?_cell hg hv 0, World.var?_cell hg hv 1, World.var?_cell hg hv 2, World.var?_cell hg hv 3, World.var?_cell hg hv 4⟩
theorem pow_ok {W : World} (h : laidMet prog laidD W) : (∀ k z, Lib.pow10Tab[k]? = some z → rd W 4 k = some (.int .u64 z)) ∧ rd W 4 20 = none := by
  have h1 : laidMet prog [("internal/strconv.uint64pow10", Go.Proofs.YtggfcjiahhjcnabGreatDoor.Rows.laid_internal_strconv_uint64pow10)] W := (h.filter fun x => x.1 == "internal/strconv.uint64pow10")
  obtain ⟨ps, ⟨g, t, cs, fuel, p, q, hg, ht, hv, hd, _, _⟩, _, _⟩ := h1
  obtain rfl := Option.some.inj ((show prog.globalNamed "internal/strconv.uint64pow10" = some 4 by kernel_rfl).symm.trans hg)
  obtain rfl := Option.some.inj ((show (prog.globals[4]?).map (·.type) = some 180 by kernel_rfl).symm.trans ht)
  obtain ⟨xs, m, rfl, hx, hlen, hxl, hel⟩ := DataW.trod_array underlying180 hd
  have c1 : prog.cellsOf 163 = 1 := by kernel_rfl
  have c20 : prog.cellsOf 180 = 20 := by kernel_rfl
  rw [c20] at hlen
  simp only [c1] at hel
  have hx1 : DataW.agg (xs.map (·.1)) = DataW.agg (Lib.pow10Tab.map fun z => DataW.lit (.int .u64 z)) := (congrArg Prod.fst hx).symm
  simp only [DataW.agg.injEq] at hx1
  have key : ∀ (k : Nat) (z : Int), Lib.pow10Tab[k]? = some z → cs.toList[k]? = some (Value.int .u64 z) := by
    intro k z hz
    have hk : k < 20 := by
      have := (List.getElem?_eq_some_iff.1 hz).1
      rwa [Lib.pow10Tab_length] at this
    have hy : (xs[k]?).map (·.1) = some (DataW.lit (.int .u64 z)) := by
      rw [← List.getElem?_map, hx1, List.getElem?_map, hz]; rfl
    cases hxk : xs[k]? with
    | none => rw [hxk] at hy; cases hy
    | some y =>
      rw [hxk] at hy
      have e := hel k hk
      obtain ⟨d, r⟩ := y
      simp only [Option.map_some, Option.some.injEq] at hy
      subst hy
      rw [hxk] at e
      obtain ⟨n, e1, e2, _⟩ := DataW.trod_int underlying163 e
      simp only [Prod.mk.injEq, DataW.lit.injEq, Lit.int.injEq, true_and] at e2
      have e3 : (List.take 1 (List.drop (k * 1) cs.toList))[0]? = cs.toList[k]? := by simp
      rw [← e3, e1, ← e2.1]; rfl
  refine ⟨fun k z hz => ?_, ?_⟩
  · show W.cell? ⟨4, k, none⟩ = _
    rw [World.var?_cell hg hv k, ← Array.getElem?_toList]; exact key k z hz
  · show W.cell? ⟨4, 20, none⟩ = _
    rw [World.var?_cell hg hv 20, ← Array.getElem?_toList, List.getElem?_eq_none (by omega)]
theorem err_ok {W : World} {n : String} {b : DataW Unit} {g0 : Nat} (h1 : laidMet prog [(n, .iface "*errors.errorString" b)] W) (hg0 : prog.globalNamed n = some g0) (ht0 : (prog.globals[g0]?).map (·.type) = some 108) :
    (∃ u v, rd W g0 0 = some (.iface u v)) ∧ rd W g0 1 = none := by
  obtain ⟨ps, ⟨g, t, cs, fuel, p, q, hg, ht, hv, hd, _, _⟩, _, _⟩ := h1
  obtain rfl := Option.some.inj (hg0.symm.trans hg)
  obtain rfl := Option.some.inj (ht0.symm.trans ht)
  obtain ⟨ms, hu⟩ : ∃ ms, prog.underlying 108 = some (.interface ms) := ⟨_, underlying108⟩
  obtain ⟨_, u, v, e, _, _⟩ := iface_of_trod hu hd
  refine ⟨⟨u, v, ?_⟩, ?_⟩
  · show W.cell? ⟨g0, 0, none⟩ = _
    rw [World.var?_cell hg hv 0, ← Array.getElem?_toList, e]; rfl
  · show W.cell? ⟨g0, 1, none⟩ = _
    rw [World.var?_cell hg hv 1, ← Array.getElem?_toList, e]; rfl
theorem max_zero : ((begin prog (fun _ _ => 0) default).world.heap[1]?).bind Obj.row? = some (#[.int .i64 0], 3) := by kernel_rfl
theorem max_ok {W : World} (h : W.ShapedOpen prog) : (∃ m, rd W 1 0 = some (.int .i64 m)) ∧ rd W 1 1 = none := by
  refine ⟨cell_of_shapedOpen_int h (by decide) max_zero rfl (by kernel_rfl) (by kernel_rfl) (by kernel_rfl), ?_⟩
  obtain ⟨cs, hh, hs, _⟩ := h.1 1 _ _ (by decide) max_zero
  have h1 : cs.size = 1 := hs
  show W.cell? ⟨1, 1, none⟩ = none
  simp [World.cell?, hh, h1]
theorem glob_ok {W : World} (h : laidMetH prog laidD W) (hs : W.ShapedOpen prog) : GlobOK cx.gl (rd W) := by
  have h' := laid_plain h
  have hp := pow_ok h'
  have hm := max_ok hs
  have hy := err_ok (W := W) (h'.filter fun x => x.1 == "strconv.ErrSyntax") (g0 := 2) (by kernel_rfl) (by kernel_rfl)
  have hz := err_ok (W := W) (h'.filter fun x => x.1 == "strconv.ErrRange") (g0 := 3) (by kernel_rfl) (by kernel_rfl)
  intro g cs hm0
  have hm1 : (g, cs) = (0, [SC.lit (.int .i64 1), SC.lit (.int .i64 1), SC.lit (.int .i64 0), SC.lit (.int .i64 1)]) ∨ (g, cs) = (1, [SC.num .i64]) ∨ (g, cs) = (2, [SC.err]) ∨ (g, cs) = (3, [SC.err]) ∨ (g, cs) = (4, Lib.pow10Tab.map fun z => SC.lit (.int .u64 z)) := by
    rw [show cx.gl = [(0, [SC.lit (.int .i64 1), SC.lit (.int .i64 1), SC.lit (.int .i64 0), SC.lit (.int .i64 1)]), (1, [SC.num .i64]), (2, [SC.err]), (3, [SC.err]), (4, Lib.pow10Tab.map fun z => SC.lit (.int .u64 z))] by kernel_rfl] at hm0
    simpa only [List.mem_cons, List.not_mem_nil, or_false] using hm0
  rcases hm1 with e | e | e | e | e
  all_goals simp only [Prod.mk.injEq] at e
  all_goals obtain ⟨rfl, rfl⟩ := e
  · obtain ⟨e0, e1, e2, e3, e4⟩ := never_ok h'
    refine ⟨fun k x hk => ?_, fun _ => e4⟩
    match k, hk with
    | 0, hk => cases hk; exact ⟨_, e0, .lit rfl⟩
    | 1, hk => cases hk; exact ⟨_, e1, .lit rfl⟩
    | 2, hk => cases hk; exact ⟨_, e2, .lit rfl⟩
    | 3, hk => cases hk; exact ⟨_, e3, .lit rfl⟩
    | k + 4, hk => cases hk
  · obtain ⟨⟨m, e⟩, e2⟩ := hm
    refine ⟨fun k x hk => ?_, fun _ => e2⟩
    match k, hk with
    | 0, hk => cases hk; exact ⟨_, e, .num ⟨m, rfl⟩⟩
    | k + 1, hk => cases hk
  · obtain ⟨⟨u, v, e⟩, e2⟩ := hy
    refine ⟨fun k x hk => ?_, fun _ => e2⟩
    match k, hk with
    | 0, hk => cases hk; exact ⟨_, e, .err ⟨u, v, rfl⟩⟩
    | k + 1, hk => cases hk
  · obtain ⟨⟨u, v, e⟩, e2⟩ := hz
    refine ⟨fun k x hk => ?_, fun _ => e2⟩
    match k, hk with
    | 0, hk => cases hk; exact ⟨_, e, .err ⟨u, v, rfl⟩⟩
    | k + 1, hk => cases hk
  · refine ⟨fun k x hk => ?_, fun _ => by rw [List.length_map, Lib.pow10Tab_length]; exact hp.2⟩
    rw [List.getElem?_map] at hk
    cases hz : Lib.pow10Tab[k]? with
    | none => rw [hz] at hk; cases hk
    | some z =>
      rw [hz] at hk
      cases hk
      exact ⟨_, hp.1 k z hz, .lit rfl⟩
end Go.Proofs.Tryz

/- Records, rules and strings as arguments. -/
namespace Go.Proofs.Tryz
open Go.Fw
theorem fit_two {C : Ctx} {d : Nat} {t a b : TypeId} {i j k : TI} {xs : List SC} {o1 o2 : Nat} (hi : C.ti t = some i) (hk : i.cls = .struct [(o1, a), (o2, b)]) (ha : C.ti a = some j) (hb : C.ti b = some k) (ja : j.cls = .int .i64) (kb : k.cls = .int .i64) (h : Fit C (d + 2) t xs) : ∃ p q : Int, xs = [.lit (.int .i64 p), .lit (.int .i64 q)] ∧ inI p ∧ inI q := by
  obtain ⟨p, q, rfl, h2, p', q', rfl, h3, rfl⟩ := fit_struct hi hk h
  obtain ⟨n, rfl, n1, n2⟩ := fit_i64 ha ja h2
  obtain ⟨m, rfl, m1, m2⟩ := fit_i64 hb kb h3
  exact ⟨n, m, rfl, ⟨n1, n2⟩, ⟨m1, m2⟩⟩
theorem fit_span {d : Nat} {xs : List SC} (h : Fit cx (d + 3) 25 xs) : ∃ q : Sp, xs = sp q ∧ SpI q := by
  obtain ⟨p1, q1, e1, h1, p2, q2, e2, h2, e3⟩ := fit_struct (by rfl) (by rfl) h
  obtain ⟨a, b, rfl, ha, hb⟩ := fit_two (by rfl) (by rfl) (by rfl) (by rfl) (by rfl) (by rfl) h1
  obtain ⟨c, d, rfl, hc, hd⟩ := fit_two (by rfl) (by rfl) (by rfl) (by rfl) (by rfl) (by rfl) h2
  exact ⟨(a, b, c, d), by rw [e1, e2, e3]; rfl, ha, hb, hc, hd⟩
theorem fit_spans {d : Nat} {es : List (List SC)} (h : ∀ e ∈ es, Fit cx (d + 3) 25 e) : ∃ ch : List Sp, es = ch.map sp ∧ ∀ s ∈ ch, SpI s := by
  induction es with
  | nil => exact ⟨[], rfl, by simp⟩
  | cons e es ih =>
    obtain ⟨q, rfl, hq⟩ := fit_span (h e (List.mem_cons_self ..))
    obtain ⟨ch, rfl, hch⟩ := ih fun e he => h e (List.mem_cons_of_mem _ he)
    refine ⟨q :: ch, rfl, fun s hs => ?_⟩
    rcases List.mem_cons.1 hs with rfl | hs
    · exact hq
    · exact hch s hs
theorem fit_rules {x : SV} (h : FitV cx 5 28 x) : ∃ e q ch, x = Ru e q ch ∧ inI e ∧ SpI q ∧ (∀ s ∈ ch, SpI s) ∧ ch.length ≤ maxLen := by
  obtain ⟨e, h1⟩ := fitV_agg rfl rfl h
  obtain ⟨p1, q1, e1, h1, p2, q2, e2, h2, p3, q3, e3, h3, e4⟩ := fit_struct (by rfl) (by rfl) h1
  obtain ⟨n, rfl, hn1, hn2⟩ := fit_i64 (by rfl) (by rfl) h1
  obtain ⟨q, rfl, hq⟩ := fit_span h2
  obtain ⟨es, rfl, hl, hes⟩ := fit_view (by rfl) (by rfl) (by rfl) h3
  obtain ⟨ch, rfl, hch⟩ := fit_spans hes
  refine ⟨n, q, ch, ?_, ⟨hn1, hn2⟩, hq, hch, by simpa using hl⟩
  rw [e, e1, e2, e3, e4]; rfl
theorem fit_record {d : Nat} {x : SV} (h : FitV cx (d + 2) 31 x) : ∃ st l, x = Rc st l ∧ inI st ∧ l.length ≤ maxLen ∧ ∀ n ∈ l, inI n := by
  obtain ⟨e, h1⟩ := fitV_agg rfl rfl h
  obtain ⟨p1, q1, e1, h1, p2, q2, e2, h2, e3⟩ := fit_struct (by rfl) (by rfl) h1
  obtain ⟨n, rfl, hn1, hn2⟩ := fit_i64 (by rfl) (by rfl) h1
  obtain ⟨l, rfl, hl, hi⟩ := fit_ints (by rfl) (by rfl) (by rfl) h2
  refine ⟨n, l, ?_, ⟨hn1, hn2⟩, hl, fun n hn => hi n hn⟩
  rw [e, e1, e2, e3]; rfl
theorem fit_string {d : Nat} {x : SV} (h : FitV cx (d + 1) 9 x) : ∃ s : List UInt8, x = SS s := by
  obtain ⟨e, h1⟩ := fitV_one rfl rfl h
  obtain ⟨s, e1, _⟩ := fit_str (by rfl) (by rfl) h1
  exact ⟨s.data.toList, by rw [e, e1]; unfold SS; rw [B_of]⟩
end Go.Proofs.Tryz
