/-
  The law RecordAges of chapter 10 returns true for every gas sample, all degrees and hours, and every factor, and leaves its arguments as they were, where the tables and errors hold what their text lays.
-/
import Derived.Test.YtdfdgnggbekhnaaGreatDoorRl
import Derived.Test.YtdfdgnggbekhnaaGreatDoorDr
import Derived.Test.YtdfdgnggbekhnaaGreatDoorTie
import Derived.Test.YtdfdgnggbekhnaaGreatDoorCards
namespace Go.Proofs.YtdfdgnggbekhnaaGreatDoor.recordAges
open Go.Fw Go.ChangeShapes Go.WideShapes Go.ChangeAt Go.RowKit Go.Proofs.Tryz
set_option maxRecDepth 100000 in
theorem walk (xs : List SV) (h : FitL cx 5 Tryz.f5.params.toList xs) : Sat cx.P cx.gl 5 xs (.one (false, [.lit (.bool true)])) := by
  rw [Tryz.params5] at h
  obtain ⟨x, y, z, rfl, h1, h2, h3⟩ := fitL3 (t := 43) (u := 44) (v := 3) h
  obtain ⟨a, b, c, e, f, rfl⟩ := fit_gas h1
  obtain ⟨n1, n2, n3, rfl⟩ := fit_three h2
  obtain ⟨m, rfl⟩ := fit_num h3
  exact recordAges_sat a b c e f n1 n2 n3 m
set_option maxRecDepth 100000 in
theorem lifted (os : Os) (started : os.Started) (H : Type) (enc : TypeId × Value → H) :
    ReturnsInHanded {} Tryz.checked os 5 .any (fun w args => (Rows.recordAgesSpec.pre enc Tryz.prog Tryz.f5 [] false w args ∧ laidMetH Tryz.prog laidD w) ∧ sizedMet enc Tryz.prog Tryz.f5 (OpenSpec.ofChange Rows.recordAgesSpec) false w args)
      (Rows.recordAgesSpec.post enc Tryz.prog Tryz.f5 false true false false) := by
  refine returnsInHanded_of_calls (C := Tryz.checked) own started (by kernel_rfl)
    (ChangeSpec.witness_shaped (enc := enc) (C := Tryz.checked) (os := os) (X := fun w _ => laidMetH Tryz.prog laidD w) false (World.laidAll Tryz.prog os laidD) #[.agg #[.int .i64 0, .int .i64 0, .int .i64 0, .int .i64 0, .int .i64 0], .agg #[.int .i64 0, .int .i64 0, .int .i64 0], .int .i64 0] 8 (World.laidAll_os _ _ _) (World.shaped_of_ZipB (by kernel_rfl) (by kernel_rfl)) (by kernel_rfl) (by kernel_rfl) (by kernel_rfl) (door_met os _)) ?_
  intro w tape i _ hsh _ hok hpre _
  obtain ⟨_, _, _, fn', hfn', _, _, _, _, hval⟩ := hok
  obtain rfl : fn' = Tryz.f5 := Option.some.inj (hfn'.symm.trans Tryz.func5)
  obtain ⟨⟨⟨ds, gs, before, hw, _⟩, hx⟩, _⟩ := hpre
  have hw' := DataW.Whole.of_heap (w' := w.forCall tape i) (by rfl) hw
  have hx' : laidMetH Tryz.prog laidD (w.forCall tape i) := hx.of_heap (by rfl)
  refine (law_calls_gl (C := cx) (d := 5) cx_ok laidOut (by kernel_rfl) (by kernel_rfl) rfl (by kernel_rfl) rfl
    (fun ds hl => by
      rw [Tryz.params5] at hl
      match ds, hl with
      | [d1, d2, d3], _ => rfl) walk (glob_ok hx' hsh) hval hw').mono fun e W' hh => ?_
  obtain ⟨v, he, hp⟩ := hh
  subst he
  exact ChangeSpec.post_blind hp
theorem closedA : (Rows.recordAgesRow.wf (OpenSpec.ofChange Rows.recordAgesSpec) && laidOutB Tryz.prog && mapsRowed Tryz.prog && Tryz.f5.params.all (Tryz.prog.readableRec ·) && namedTie Tryz.prog Rows.recordAgesRow.named Rows.recordAgesSpec.vars && (Rows.recordAgesRow.stops == []) && (Tryz.prog.stops == []) && (Rows.recordAgesRow.knobs == []) && (Tryz.prog.stopKnobs == [])) = true := by kernel_rfl
theorem closedB : (Rows.recordAgesRow.inPlace == Tryz.prog.inPlace 5) = true := by kernel_rfl
theorem closedC : (Rows.recordAgesRow.unfollowed == Tryz.prog.unfollowed 5) = true := by kernel_rfl
theorem closedD : (Rows.recordAgesRow.recurses == Tryz.prog.recurses 5) = true := by kernel_rfl
theorem closedE : (Rows.recordAgesRow.named == Tryz.prog.varsNamed 5) = true := by kernel_rfl
theorem closedF : ((Rows.recordAgesRow.maps == (Tryz.f5.params.toList ++ Rows.recordAgesSpec.plain.varTypes Tryz.prog).any (Tryz.prog.mapsRec ·)) && (Rows.recordAgesRow.ifaces == (Tryz.f5.params.toList ++ Rows.recordAgesSpec.plain.varTypes Tryz.prog).any (Tryz.prog.ifacesRec ·)) && (Rows.recordAgesRow.mapsOut == Tryz.prog.mapsAmong Tryz.f5.resultTypes.toList) && (Rows.recordAgesRow.loops == (Tryz.f5.params.toList ++ Rows.recordAgesSpec.plain.varTypes Tryz.prog).any (Tryz.prog.loopsFrom ·)) && (Rows.recordAgesRow.wideKeys == (Tryz.f5.params.toList ++ Rows.recordAgesSpec.plain.varTypes Tryz.prog ++ Tryz.f5.resultTypes.toList).any (Tryz.prog.wideKeysFrom ·)) && Rows.recordAgesSpec.vars.all (Tryz.prog.varReadable ·) && Tryz.f5.resultTypes.all (fun t => Tryz.prog.readableRec t && decide (t < Tryz.prog.types.size)) && (Rows.recordAgesRow.ifacesOut == Tryz.f5.resultTypes.toList.any (Tryz.prog.ifacesRec ·)) && (Rows.recordAgesRow.loopsOut == Tryz.f5.resultTypes.toList.any (Tryz.prog.loopsFrom ·))) = true := by kernel_rfl
theorem closedG : (Rows.recordAgesRow.plainKeys == Tryz.prog.plainKeys) = true := by kernel_rfl
theorem closedH : (Rows.recordAgesRow.shortTexts.isNone && Tryz.prog.stopsHeard && Tryz.prog.mayEnter && (Rows.recordAgesRow.lifted == Tryz.prog.liftsFinal) && (Tryz.prog.make == some Rows.recordAgesRow.make)) = true := by kernel_rfl
theorem closedI : joinedTail Tryz.prog Tryz.f5 Rows.recordAgesSpec Rows.recordAgesRow = true := by kernel_rfl
theorem closed : joinedFacts Tryz.prog 5 Tryz.f5 Rows.recordAgesSpec Rows.recordAgesRow = true :=
  joined_of closedA closedB closedC closedD closedE closedF closedG closedH closedI
theorem named : Tryz.prog.funcNamed Rows.recordAgesRow.func = some 5 := by kernel_rfl
theorem instanced : Tryz.f5.isInstance Tryz.prog Rows.recordAgesRow.origin Rows.recordAgesRow.targs := of_decide_eq_true (by kernel_rfl)
theorem wrapped : Tryz.f5.isWrapper Tryz.prog Rows.recordAgesRow.wrapper Rows.recordAgesRow.mainSum := by
  unfold Func.isWrapper
  first | (rw [if_pos (by decide +kernel)]; kernel_rfl) | (rw [if_neg (by decide +kernel)]; exact ⟨rfl, rfl⟩)
theorem over : Rows.RecordAgesSaid :=
  OpenClaim.holds_of_wide 5 Tryz.f5 rfl rfl rfl rfl rfl rfl rfl ⟨rfl, rfl, rfl, rfl, rfl⟩ rfl rfl rfl rfl rfl named Tryz.func5 closed
    instanced wrapped
    (fun os started H enc _ => lifted os started H enc)
theorem proved : Rows.RecordAgesCardSaid :=
  Claim7.holds_tied_plain_at .later [] [.data, .data, .data, .data, .sentinel, .sentinel, .widerDeep, .data, .pinned] true (true, "1bad642fbba7ef6c0931803cb05a158f095ac72c07f02f5fb2839c79fb2b9fdf") true
    over (fun _ h => by cases h) (by kernel_rfl) (fun _ h => by cases h) recordAges_row_tie rfl ⟨rfl, rfl⟩ (by kernel_rfl) rfl
    (fun f fn hf hfn => by
      obtain rfl : f = 5 := Option.some.inj ((show Tryz.prog.funcNamed "buchholz/buchholzlaw10.RecordAges" = some 5 by kernel_rfl).symm.trans hf) |>.symm
      obtain rfl : fn = Tryz.f5 := (Option.some.inj (Tryz.func5.symm.trans hfn)).symm
      exact ⟨by kernel_rfl, fun j t ht => by
        have hall : (Tryz.f5.params.toList.all fun u => !Tryz.prog.wantsStandIn u) = true := by kernel_rfl
        have hm : t ∈ Tryz.f5.params.toList := by simpa using Array.mem_of_getElem? ht
        exact (show Tryz.prog.wantsStandIn t = false by simpa using List.all_eq_true.1 hall t hm)⟩)
    (by kernel_rfl)
end Go.Proofs.YtdfdgnggbekhnaaGreatDoor.recordAges
