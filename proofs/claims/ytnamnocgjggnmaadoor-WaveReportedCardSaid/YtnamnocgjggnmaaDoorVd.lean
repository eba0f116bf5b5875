/- The package variable 'never' holds what its text lays. -/
import Derived.Test.YtnamnocgjggnmaaDoorCx
import Derived.Test.YtnamnocgjggnmaaDoorFc
import Derived.Test.YtnamnocgjggnmaaDoorRows
import Derived.LaidMore
import Derived.LaidSub
import Derived.Stop.Joined
import Derived.Test.YtnamnocgjggnmaaDoorVa
namespace Go.Proofs.Tryd
open Go.Fw Go.ChangeShapes Go.WideShapes Go.ChangeAt Go.RowKit
set_option maxRecDepth 100000
abbrev laidD : List (String × DataW Unit) := [("buchholz/wave.never", Go.Proofs.YtnamnocgjggnmaaDoor.Rows.laid_buchholz_wave_never)]
theorem own : ownKnob prog.godebug = none := by kernel_rfl
theorem laidOut : laidOutB prog = true := by kernel_rfl
theorem door_met (os : Os) (args : Array Value) : laidMetH prog laidD ((World.doorLaid prog 400 os).forCall (fun _ _ => 0) ⟨#[], args, []⟩).memory :=
  laidMetH_of_parts3 (fuel := 8) (laidMet_of_run' 8 (by kernel_rfl) (by kernel_rfl)) (by kernel_rfl) (by kernel_rfl)
theorem frac_of {w : World} {m : Nat} {l : List Value} {i j : Int} {x : DataW Unit × List MemPlace}
    (hd : DataW.trod (fun _ => ()) prog w 0 (fun _ => true) false m 23 l = some x) (hx : x.1 = .agg [.lit (.int .i64 i), .lit (.int .i64 j)]) : l = [.int .i64 i, .int .i64 j] := by
  obtain ⟨xs, n, rfl, rfl, hlen, hxl, hel⟩ := DataW.trod_struct underlying23 hd
  have c2 : prog.cellsOf 23 = 2 := by kernel_rfl
  have c3 : prog.cellsOf 3 = 1 := by kernel_rfl
  rw [c2] at hlen
  simp only [DataW.agg.injEq] at hx
  match l, hlen, xs, hx with
  | [v0, v1], _, [x0, x1], hx =>
    simp only [List.map_cons, List.map_nil, List.cons.injEq, and_true] at hx
    have h0 := hel 0 _ rfl
    have h1 := hel 1 _ rfl
    change DataW.trod (fun _ => ()) prog w 0 (fun _ => true) false n 3 (List.take (prog.cellsOf 3) (List.drop 0 [v0, v1])) = some x0 at h0
    change DataW.trod (fun _ => ()) prog w 0 (fun _ => true) false n 3 (List.take (prog.cellsOf 3) (List.drop 1 [v0, v1])) = some x1 at h1
    rw [c3] at h0 h1
    simp only [List.drop_zero, List.take_succ_cons, List.take_zero, List.drop_succ_cons] at h0 h1
    obtain ⟨d0, q0⟩ := x0
    obtain ⟨d1, q1⟩ := x1
    obtain ⟨rfl, rfl⟩ := hx
    obtain ⟨k0, e0, f0, _⟩ := DataW.trod_int underlying3 h0
    obtain ⟨k1, e1, f1, _⟩ := DataW.trod_int underlying3 h1
    simp only [List.cons.injEq, and_true] at e0 e1
    simp only [Prod.mk.injEq, DataW.lit.injEq, Lit.int.injEq, true_and] at f0 f1
    rw [e0, e1, ← f0.1, ← f1.1]
theorem glob_ok {W : World} (h : laidMetH prog laidD W) : GlobOK cx.gl (rd W) := by
  have h1 : laidMet prog laidD W := (laidMetH_iff.1 h).1
  obtain ⟨ps, ⟨g, t, cs, fuel, p, q, hg, ht, hv, hd, _, _⟩, _, _⟩ := h1
  obtain rfl := Option.some.inj ((show prog.globalNamed "buchholz/wave.never" = some 0 by kernel_rfl).symm.trans hg)
  obtain rfl := Option.some.inj ((show (prog.globals[0]?).map (·.type) = some 153 by kernel_rfl).symm.trans ht)
  obtain ⟨xs, m, rfl, hx, hlen, hxl, hel⟩ := DataW.trod_struct underlying153 hd
  have c4 : prog.cellsOf 153 = 4 := by kernel_rfl
  have c2 : prog.cellsOf 23 = 2 := by kernel_rfl
  rw [c4] at hlen
  have hx1 : DataW.agg (xs.map (·.1)) = DataW.agg [_, _] := (congrArg Prod.fst hx).symm
  simp only [DataW.agg.injEq] at hx1
  obtain ⟨l⟩ := cs
  match xs, hx1, l, hlen with
  | [x0, x1], hx1, [v0, v1, v2, v3], _ =>
    simp only [List.map_cons, List.map_nil, List.cons.injEq, and_true] at hx1
    obtain ⟨y0, y1⟩ := hx1
    have h0 := hel 0 _ rfl
    have h1 := hel 1 _ rfl
    change DataW.trod (fun _ => ()) prog W 0 (fun _ => true) false m 23 (List.take (prog.cellsOf 23) (List.drop 0 [v0, v1, v2, v3])) = some x0 at h0
    change DataW.trod (fun _ => ()) prog W 0 (fun _ => true) false m 23 (List.take (prog.cellsOf 23) (List.drop 2 [v0, v1, v2, v3])) = some x1 at h1
    rw [c2] at h0 h1
    have k0 := frac_of h0 y0
    have k1 := frac_of h1 y1
    simp at k0 k1
    obtain ⟨rfl, rfl⟩ := k0
    obtain ⟨rfl, rfl⟩ := k1
    intro g cs hm k x hk
    simp only [cx, List.mem_singleton, Prod.mk.injEq] at hm
    obtain ⟨rfl, rfl⟩ := hm
    have hc := World.var?_cell hg hv k
    match k, hk with
    | 0, hk => simp at hk; subst hk; exact ⟨_, hc, .lit rfl⟩
    | 1, hk => simp at hk; subst hk; exact ⟨_, hc, .lit rfl⟩
    | 2, hk => simp at hk; subst hk; exact ⟨_, hc, .lit rfl⟩
    | 3, hk => simp at hk; subst hk; exact ⟨_, hc, .lit rfl⟩
    | k + 4, hk => simp at hk
end Go.Proofs.Tryd

/- Arguments of chapter 8 that fit their types. -/
namespace Go.Proofs.Tryd
open Go.Fw
theorem fit_two {C : Ctx} {d : Nat} {t a b : TypeId} {i j k : TI} {xs : List SC} {o1 o2 : Nat} (hi : C.ti t = some i) (hk : i.cls = .struct [(o1, a), (o2, b)]) (ha : C.ti a = some j) (hb : C.ti b = some k) (ja : j.cls = .int .i64) (kb : k.cls = .int .i64) (h : Fit C (d + 2) t xs) : ∃ p q : Int, xs = [.lit (.int .i64 p), .lit (.int .i64 q)] ∧ inI p ∧ inI q := by
  obtain ⟨p, q, rfl, h2, p', q', rfl, h3, rfl⟩ := fit_struct hi hk h
  obtain ⟨n, rfl, n1, n2⟩ := fit_i64 ha ja h2
  obtain ⟨m, rfl, m1, m2⟩ := fit_i64 hb kb h3
  exact ⟨n, m, rfl, ⟨n1, n2⟩, ⟨m1, m2⟩⟩
theorem fit_oneInt {d : Nat} {x : SV} (h : FitV cx (d + 1) 3 x) : ∃ n : Int, x = I n ∧ inI n := by
  obtain ⟨e, h1⟩ := fitV_one rfl rfl h
  obtain ⟨n, e1, h2, h3⟩ := fit_i64 (by rfl) (by rfl) h1
  exact ⟨n, by rw [e, e1], h2, h3⟩
theorem fit_range {d : Nat} {x : SV} (h : FitV cx (d + 2) 49 x) : ∃ a b : Int, x = F2 a b ∧ inI a ∧ inI b := by
  obtain ⟨e, h1⟩ := fitV_agg rfl rfl h
  obtain ⟨a, b, e1, h2, h3⟩ := fit_two (by rfl) (by rfl) (by rfl) (by rfl) (by rfl) (by rfl) h1
  exact ⟨a, b, by rw [e, e1], h2, h3⟩
theorem fit_ranges2 {d : Nat} {x : SV} (h : FitV cx (d + 3) 94 x) : ∃ a b c d : Int, x = F4 a b c d := by
  obtain ⟨e, h1⟩ := fitV_agg rfl rfl h
  obtain ⟨p, q, e1, h2, p2, q2, e2, h3, e3⟩ := fit_array (by rfl) (by rfl) h1
  obtain ⟨a, b, rfl, _⟩ := fit_two (by rfl) (by rfl) (by rfl) (by rfl) (by rfl) (by rfl) h2
  obtain ⟨c, d, rfl, _⟩ := fit_two (by rfl) (by rfl) (by rfl) (by rfl) (by rfl) (by rfl) h3
  exact ⟨a, b, c, d, by rw [e, e1, e2, e3]; rfl⟩
theorem fit_int3 {d : Nat} {x : SV} (h : FitV cx (d + 2) 58 x) : ∃ a b c : Int, x = (true, [J a, J b, J c]) ∧ inI a ∧ inI b ∧ inI c := by
  obtain ⟨e, h1⟩ := fitV_agg rfl rfl h
  obtain ⟨p, q, e1, h2, p2, q2, e2, h3, p3, q3, e3, h4, e4⟩ := fit_array (by rfl) (by rfl) h1
  obtain ⟨a, rfl, a1, a2⟩ := fit_i64 (by rfl) (by rfl) h2
  obtain ⟨b, rfl, b1, b2⟩ := fit_i64 (by rfl) (by rfl) h3
  obtain ⟨c, rfl, c1, c2⟩ := fit_i64 (by rfl) (by rfl) h4
  exact ⟨a, b, c, by rw [e, e1, e2, e3, e4]; rfl, ⟨a1, a2⟩, ⟨b1, b2⟩, c1, c2⟩
theorem fit_figures {d : Nat} {x : SV} (h : FitV cx (d + 3) 51 x) : ∃ t p q a b c d e f : Int, x = (true, [J t, J p, J q, J a, J b, J c, J d, J e, J f]) := by
  obtain ⟨e, h1⟩ := fitV_agg rfl rfl h
  obtain ⟨p1, q1, e1, h1, p2, q2, e2, h2, p3, q3, e3, h3, p4, q4, e4, h4, p5, q5, e5, h5, e6⟩ := fit_struct (by rfl) (by rfl) h1
  obtain ⟨t, rfl, _⟩ := fit_i64 (by rfl) (by rfl) h1
  obtain ⟨p, q, rfl, _⟩ := fit_two (by rfl) (by rfl) (by rfl) (by rfl) (by rfl) (by rfl) h2
  obtain ⟨a, b, rfl, _⟩ := fit_two (by rfl) (by rfl) (by rfl) (by rfl) (by rfl) (by rfl) h3
  obtain ⟨c, d, rfl, _⟩ := fit_two (by rfl) (by rfl) (by rfl) (by rfl) (by rfl) (by rfl) h4
  obtain ⟨i, j, rfl, _⟩ := fit_two (by rfl) (by rfl) (by rfl) (by rfl) (by rfl) (by rfl) h5
  refine ⟨t, p, q, a, b, c, d, i, j, ?_⟩
  rw [e, e1, e2, e3, e4, e5, e6]; rfl
theorem fit_span {d : Nat} {xs : List SC} (h : Fit cx (d + 3) 25 xs) : ∃ q : Sp, xs = sp q ∧ SpI q := by
  obtain ⟨p1, q1, e1, h1, p2, q2, e2, h2, e3⟩ := fit_struct (by rfl) (by rfl) h
  obtain ⟨a, b, rfl, ha, hb⟩ := fit_two (by rfl) (by rfl) (by rfl) (by rfl) (by rfl) (by rfl) h1
  obtain ⟨c, d, rfl, hc, hd⟩ := fit_two (by rfl) (by rfl) (by rfl) (by rfl) (by rfl) (by rfl) h2
  exact ⟨(a, b, c, d), by rw [e1, e2, e3]; rfl, ha, hb, hc, hd⟩
theorem fit_spans {d : Nat} {es : List (List SC)} (h : ∀ e ∈ es, Fit cx (d + 3) 25 e) : ∃ ch : List Sp, es = ch.map sp ∧ ∀ s ∈ ch, SpI s := by
  induction es with
  | nil => exact ⟨[], rfl, by simp⟩
  | cons e es ih =>
    obtain ⟨q, rfl, hq⟩ := fit_span (h e (List.mem_cons_self ..))
    obtain ⟨ch, rfl, hch⟩ := ih fun e he => h e (List.mem_cons_of_mem _ he)
    refine ⟨q :: ch, rfl, fun s hs => ?_⟩
    rcases List.mem_cons.1 hs with rfl | hs
    · exact hq
    · exact hch s hs
theorem fit_rules {x : SV} (h : FitV cx 5 28 x) : ∃ e q ch, x = Ru e q ch ∧ SpI q ∧ (∀ s ∈ ch, SpI s) ∧ ch.length ≤ maxLen := by
  obtain ⟨e, h1⟩ := fitV_agg rfl rfl h
  obtain ⟨p1, q1, e1, h1, p2, q2, e2, h2, p3, q3, e3, h3, e4⟩ := fit_struct (by rfl) (by rfl) h1
  obtain ⟨n, rfl, _⟩ := fit_i64 (by rfl) (by rfl) h1
  obtain ⟨q, rfl, hq⟩ := fit_span h2
  obtain ⟨es, rfl, hl, hes⟩ := fit_view (by rfl) (by rfl) (by rfl) h3
  obtain ⟨ch, rfl, hch⟩ := fit_spans hes
  refine ⟨n, q, ch, ?_, hq, hch, by simpa using hl⟩
  rw [e, e1, e2, e3, e4]; rfl
theorem fit_record {d : Nat} {x : SV} (h : FitV cx (d + 2) 31 x) : ∃ st l, x = Rc st l ∧ l.length ≤ maxLen ∧ ∀ n ∈ l, inI n := by
  obtain ⟨e, h1⟩ := fitV_agg rfl rfl h
  obtain ⟨p1, q1, e1, h1, p2, q2, e2, h2, e3⟩ := fit_struct (by rfl) (by rfl) h1
  obtain ⟨n, rfl, _⟩ := fit_i64 (by rfl) (by rfl) h1
  obtain ⟨l, rfl, hl, hi⟩ := fit_ints (by rfl) (by rfl) (by rfl) h2
  refine ⟨n, l, ?_, hl, fun n hn => hi n hn⟩
  rw [e, e1, e2, e3]; rfl
end Go.Proofs.Tryd
