/- The package variable 'kinds' holds what its text lays. -/
import Derived.Test.YtflcnhmckeiacaaGreatDoorCx
import Derived.Test.YtflcnhmckeiacaaGreatDoorFc
import Derived.Test.YtflcnhmckeiacaaGreatDoorRows
import Derived.LaidMore
import Derived.Stop.Joined
import Derived.Test.YtflcnhmckeiacaaGreatDoorYa
namespace Go.Proofs.Tryz
open Go.Fw Go.ChangeShapes Go.WideShapes Go.ChangeAt Go.RowKit
set_option maxRecDepth 100000
abbrev laidD : List (String × DataW Unit) := [("buchholz/force.kinds", Go.Proofs.YtflcnhmckeiacaaGreatDoor.Rows.laid_buchholz_force_kinds)]
theorem own : ownKnob prog.godebug = none := by kernel_rfl
theorem laidOut : laidOutB prog = true := by kernel_rfl
theorem door_met (os : Os) (args : Array Value) : laidMetH prog laidD ((World.doorLaid prog 400 os).forCall (fun _ _ => 0) ⟨#[], args, []⟩).memory :=
  laidMetH_of_parts3 (fuel := 8) (laidMet_of_run' 8 (by kernel_rfl) (by kernel_rfl)) (by kernel_rfl) (by kernel_rfl)
theorem kind_of {w : World} {m : Nat} {f0 : FuncId} {l : List Value} {b : UInt8} {r : List UInt8} {j : Int} {x : DataW (List UInt8) × List MemPlace}
    (hone : ((List.range prog.funcs.size).filter fun f => (prog.funcs[f]?).any (·.name.toUTF8.data.toList == b :: r)) = [f0])
    (hd : DataW.trod (funcToken prog) prog w 0 (fun _ => true) true m 126 l = some x) (hx : x.1 = .agg [.held (b :: r), .lit (.int .i64 j)]) : l = [.func (.func f0) #[] #[], .int .i64 j] := by
  obtain ⟨xs, n, rfl, rfl, hlen, hxl, hel⟩ := DataW.trod_struct underlying126 hd
  have c2 : prog.cellsOf 126 = 2 := by kernel_rfl
  have c1 : prog.cellsOf 112 = 1 := by kernel_rfl
  have c3 : prog.cellsOf 3 = 1 := by kernel_rfl
  rw [c2] at hlen
  simp only [DataW.agg.injEq] at hx
  match l, hlen, xs, hx with
  | [v0, v1], _, [x0, x1], hx =>
    simp only [List.map_cons, List.map_nil, List.cons.injEq, and_true] at hx
    have h0 := hel 0 _ rfl
    have h1 := hel 1 _ rfl
    change DataW.trod (funcToken prog) prog w 0 (fun _ => true) true n 112 (List.take (prog.cellsOf 112) (List.drop 0 [v0, v1])) = some x0 at h0
    change DataW.trod (funcToken prog) prog w 0 (fun _ => true) true n 3 (List.take (prog.cellsOf 3) (List.drop 1 [v0, v1])) = some x1 at h1
    rw [c1] at h0
    rw [c3] at h1
    simp only [List.drop_zero, List.take_succ_cons, List.take_zero, List.drop_succ_cons] at h0 h1
    obtain ⟨d0, q0⟩ := x0
    obtain ⟨d1, q1⟩ := x1
    obtain ⟨rfl, rfl⟩ := hx
    obtain rfl := Go.func_of_trod underlying112 hone h0
    obtain ⟨k, e1, e2, _⟩ := DataW.trod_int underlying3 h1
    simp only [List.cons.injEq, and_true] at e1
    simp only [Prod.mk.injEq, DataW.lit.injEq, Lit.int.injEq, true_and] at e2
    rw [e1, ← e2.1]
theorem rep_fn (f : FuncId) : Rep nomem nomem (.func (.func f) #[] #[]) (.fn f [] []) :=
  .fn #[] #[] (fun _ => #[]) rfl rfl (by simp) (by simp) (by simp) (by simp) (by simp)
theorem glob_ok {W : World} (h : laidMetH prog laidD W) : GlobOK cx.gl (rd W) := by
  obtain ⟨g, t, cs, fuel, p, hg, ht, hv, hd⟩ := h.funcs (n := "buchholz/force.kinds") (List.mem_cons_self ..)
  obtain rfl := Option.some.inj ((show prog.globalNamed "buchholz/force.kinds" = some 0 by kernel_rfl).symm.trans hg)
  obtain rfl := Option.some.inj ((show (prog.globals[0]?).map (·.type) = some 127 by kernel_rfl).symm.trans ht)
  obtain ⟨xs, m, rfl, hx, hlen, hxl, hel⟩ := DataW.trod_array underlying127 hd
  have c8 : prog.cellsOf 127 = 8 := by kernel_rfl
  have c2 : prog.cellsOf 126 = 2 := by kernel_rfl
  rw [c8] at hlen
  simp only [c2] at hel
  have hx1 : DataW.agg (xs.map (·.1)) = DataW.agg [_, _, _, _] := (congrArg Prod.fst hx).symm
  simp only [DataW.agg.injEq] at hx1
  match xs, hxl, hx1, hel with
  | [x0, x1, x2, x3], _, hx1, hel =>
    simp only [List.map_cons, List.map_nil, List.cons.injEq, and_true] at hx1
    obtain ⟨y0, y1, y2, y3⟩ := hx1
    have k0 := kind_of (f0 := 55) (by kernel_rfl) (hel 0 (by decide)) y0
    have k1 := kind_of (f0 := 55) (by kernel_rfl) (hel 1 (by decide)) y1
    have k2 := kind_of (f0 := 135) (by kernel_rfl) (hel 2 (by decide)) y2
    have k3 := kind_of (f0 := 135) (by kernel_rfl) (hel 3 (by decide)) y3
    obtain ⟨l⟩ := cs
    match l, hlen with
    | [v0, v1, v2, v3, v4, v5, v6, v7], _ =>
      simp at k0 k1 k2 k3
      obtain ⟨rfl, rfl⟩ := k0
      obtain ⟨rfl, rfl⟩ := k1
      obtain ⟨rfl, rfl⟩ := k2
      obtain ⟨rfl, rfl⟩ := k3
      intro g cs hm
      simp only [cx, List.mem_singleton, Prod.mk.injEq] at hm
      obtain ⟨rfl, rfl⟩ := hm
      refine ⟨fun k x hk => ?_, fun _ => World.var?_cell hg hv 8⟩
      have hc := World.var?_cell hg hv k
      match k, hk with
      | 0, hk => simp at hk; subst hk; exact ⟨_, hc, rep_fn _⟩
      | 1, hk => simp at hk; subst hk; exact ⟨_, hc, .lit rfl⟩
      | 2, hk => simp at hk; subst hk; exact ⟨_, hc, rep_fn _⟩
      | 3, hk => simp at hk; subst hk; exact ⟨_, hc, .lit rfl⟩
      | 4, hk => simp at hk; subst hk; exact ⟨_, hc, rep_fn _⟩
      | 5, hk => simp at hk; subst hk; exact ⟨_, hc, .lit rfl⟩
      | 6, hk => simp at hk; subst hk; exact ⟨_, hc, rep_fn _⟩
      | 7, hk => simp at hk; subst hk; exact ⟨_, hc, .lit rfl⟩
      | k + 8, hk => simp at hk
end Go.Proofs.Tryz

/- Designs and cases as arguments. -/
namespace Go.Proofs.Tryz
open Go.Fw Go.Plain
theorem fit_twoD {C : Ctx} {d : Nat} {t a b : TypeId} {i j k : TI} {xs : List SC} {o1 o2 : Nat} (hi : C.ti t = some i) (hk : i.cls = .struct [(o1, a), (o2, b)]) (ha : C.ti a = some j) (hb : C.ti b = some k) (ja : j.cls = .int .i64) (kb : k.cls = .int .i64) (h : Fit C (d + 2) t xs) : ∃ p q : Int, xs = [.lit (.int .i64 p), .lit (.int .i64 q)] ∧ inI p ∧ inI q := by
  obtain ⟨p, q, rfl, h2, p', q', rfl, h3, rfl⟩ := fit_struct hi hk h
  obtain ⟨n, rfl, n1, n2⟩ := fit_i64 ha ja h2
  obtain ⟨m, rfl, m1, m2⟩ := fit_i64 hb kb h3
  exact ⟨n, m, rfl, ⟨n1, n2⟩, ⟨m1, m2⟩⟩
theorem fit_faultD {d : Nat} {xs : List SC} (h : Fit cx (d + 3) 68 xs) : ∃ f : Fa, xs = fcs f ∧ inI f.2.2.2.2.1 ∧ inI f.2.2.2.2.2 := by
  obtain ⟨p, q, e1, h2, p', q', e2, h3, p2, q2, e3, h4, e4⟩ := fit_struct (by rfl) (by rfl) h
  obtain ⟨a, b, rfl, _⟩ := fit_twoD (by rfl) (by rfl) (by rfl) (by rfl) (by rfl) (by rfl) h2
  obtain ⟨c, e, rfl, _⟩ := fit_twoD (by rfl) (by rfl) (by rfl) (by rfl) (by rfl) (by rfl) h3
  obtain ⟨n, m, rfl, hn, hm⟩ := fit_twoD (by rfl) (by rfl) (by rfl) (by rfl) (by rfl) (by rfl) h4
  exact ⟨(a, b, c, e, n, m), by rw [e1, e2, e3, e4]; rfl, hn, hm⟩
theorem fit_faults {d : Nat} {es : List (List SC)} (h : ∀ e ∈ es, Fit cx (d + 3) 68 e) : ∃ fl : List Fa, es = fl.map fcs ∧ ∀ f ∈ fl, inI f.2.2.2.2.1 ∧ inI f.2.2.2.2.2 := by
  induction es with
  | nil => exact ⟨[], rfl, by simp⟩
  | cons e es ih =>
    obtain ⟨q, rfl, hq⟩ := fit_faultD (h e (List.mem_cons_self ..))
    obtain ⟨ch, rfl, hch⟩ := ih fun e he => h e (List.mem_cons_of_mem _ he)
    refine ⟨q :: ch, rfl, fun s hs => ?_⟩
    rcases List.mem_cons.1 hs with rfl | hs
    · exact hq
    · exact hch s hs
theorem fit_taps {d : Nat} {es : List (List SC)} (h : ∀ e ∈ es, Fit cx (d + 1) 22 e) : ∃ ts : List (List Int), es = ts.map (fun t => [.ints t]) ∧ ∀ t ∈ ts, t.length ≤ maxLen := by
  induction es with
  | nil => exact ⟨[], rfl, by simp⟩
  | cons e es ih =>
    obtain ⟨q, rfl, hq, _⟩ := fit_ints (by rfl) (by rfl) (by rfl) (h e (List.mem_cons_self ..))
    obtain ⟨ch, rfl, hch⟩ := ih fun e he => h e (List.mem_cons_of_mem _ he)
    refine ⟨q :: ch, rfl, fun s hs => ?_⟩
    rcases List.mem_cons.1 hs with rfl | hs
    · exact hq
    · exact hch s hs
theorem fit_design {x : SV} (h : FitV cx 5 29 x) : ∃ a ts lo hi fl l0 l1 l2 l3, x = Ds a ts lo hi fl l0 l1 l2 l3 ∧ a.length ≤ maxLen ∧ (∀ t ∈ ts, t.length ≤ maxLen) ∧ ts.length ≤ maxLen ∧ fl.length ≤ maxLen ∧ ∀ f ∈ fl, inI f.2.2.2.2.1 ∧ inI f.2.2.2.2.2 := by
  obtain ⟨e, h1⟩ := fitV_agg rfl rfl h
  obtain ⟨p1, q1, e1, h1, p2, q2, e2, h2, p3, q3, e3, h3, p4, q4, e4, h4, p5, q5, e5, h5, e6⟩ := fit_struct (by rfl) (by rfl) h1
  obtain ⟨a, rfl, ha, _⟩ := fit_ints (by rfl) (by rfl) (by rfl) h1
  obtain ⟨es, rfl, hl, hes⟩ := fit_view (by rfl) (by rfl) (by rfl) h2
  obtain ⟨ts, rfl, hts⟩ := fit_taps hes
  obtain ⟨lo, hi, rfl, _⟩ := fit_twoD (by rfl) (by rfl) (by rfl) (by rfl) (by rfl) (by rfl) h3
  obtain ⟨fs, rfl, hl2, hfs⟩ := fit_view (by rfl) (by rfl) (by rfl) h4
  obtain ⟨fl, rfl, hfl⟩ := fit_faults hfs
  obtain ⟨r0, s0, g0, k0, r1, s1, g1, k1, r2, s2, g2, k2, r3, s3, g3, k3, g4⟩ := fit_array (by rfl) (by rfl) h5
  obtain ⟨l0, rfl, _⟩ := fit_i64 (by rfl) (by rfl) k0
  obtain ⟨l1, rfl, _⟩ := fit_i64 (by rfl) (by rfl) k1
  obtain ⟨l2, rfl, _⟩ := fit_i64 (by rfl) (by rfl) k2
  obtain ⟨l3, rfl, _⟩ := fit_i64 (by rfl) (by rfl) k3
  exact ⟨a, ts, lo, hi, fl, l0, l1, l2, l3, by rw [e, e1, e2, e3, e4, e5, e6, g0, g1, g2, g3, g4]; rfl, ha, hts, by simpa using hl, by simpa using hl2, hfl⟩
theorem fit_case {x : SV} (h : FitV cx 5 31 x) : ∃ c : Ca, x = CaX c := by
  obtain ⟨e, h1⟩ := fitV_agg rfl rfl h
  obtain ⟨p1, q1, e1, h1, p2, q2, e2, h2, p3, q3, e3, h3, p4, q4, e4, h4, e5⟩ := fit_struct (by rfl) (by rfl) h1
  obtain ⟨k, rfl, _⟩ := fit_i64 (by rfl) (by rfl) h1
  obtain ⟨t, rfl, _⟩ := fit_i64 (by rfl) (by rfl) h2
  obtain ⟨s, rfl, _⟩ := fit_i64 (by rfl) (by rfl) h3
  obtain ⟨f, rfl, _⟩ := fit_i64 (by rfl) (by rfl) h4
  exact ⟨(k, t, s, f), by rw [e, e1, e2, e3, e4, e5]; rfl⟩
end Go.Proofs.Tryz
