/-
  The law RecordGases of chapter 10 returns true for every gas sample, all degrees and all hours, and leaves its arguments as they were, where the tables and errors hold what their text lays.
-/
import Derived.Test.YtdfdgnggbekhnaaGreatDoorRk
import Derived.Test.YtdfdgnggbekhnaaGreatDoorDr
import Derived.Test.YtdfdgnggbekhnaaGreatDoorTie
import Derived.Test.YtdfdgnggbekhnaaGreatDoorCards
namespace Go.Proofs.YtdfdgnggbekhnaaGreatDoor.recordGases
open Go.Fw Go.ChangeShapes Go.WideShapes Go.ChangeAt Go.RowKit Go.Proofs.Tryz
set_option maxRecDepth 100000 in
theorem walk (xs : List SV) (h : FitL cx 5 Tryz.f4.params.toList xs) : Sat cx.P cx.gl 4 xs (.one (false, [.lit (.bool true)])) := by
  rw [Tryz.params4] at h
  obtain ⟨x, y, z, rfl, h1, h2, h3⟩ := fitL3 (t := 43) (u := 3) (v := 3) h
  obtain ⟨a, b, c, e, f, rfl⟩ := fit_gas h1
  obtain ⟨n, rfl⟩ := fit_num h2
  obtain ⟨m, rfl⟩ := fit_num h3
  exact recordGases_sat a b c e f n m
set_option maxRecDepth 100000 in
theorem lifted (os : Os) (started : os.Started) (H : Type) (enc : TypeId × Value → H) :
    ReturnsInHanded {} Tryz.checked os 4 .any (fun w args => (Rows.recordGasesSpec.pre enc Tryz.prog Tryz.f4 [] false w args ∧ laidMetH Tryz.prog laidD w) ∧ sizedMet enc Tryz.prog Tryz.f4 (OpenSpec.ofChange Rows.recordGasesSpec) false w args)
      (Rows.recordGasesSpec.post enc Tryz.prog Tryz.f4 false true false false) := by
  refine returnsInHanded_of_calls (C := Tryz.checked) own started (by kernel_rfl)
    (ChangeSpec.witness_shaped (enc := enc) (C := Tryz.checked) (os := os) (X := fun w _ => laidMetH Tryz.prog laidD w) false (World.laidAll Tryz.prog os laidD) #[.agg #[.int .i64 0, .int .i64 0, .int .i64 0, .int .i64 0, .int .i64 0], .int .i64 0, .int .i64 0] 8 (World.laidAll_os _ _ _) (World.shaped_of_ZipB (by kernel_rfl) (by kernel_rfl)) (by kernel_rfl) (by kernel_rfl) (by kernel_rfl) (door_met os _)) ?_
  intro w tape i _ hsh _ hok hpre _
  obtain ⟨_, _, _, fn', hfn', _, _, _, _, hval⟩ := hok
  obtain rfl : fn' = Tryz.f4 := Option.some.inj (hfn'.symm.trans Tryz.func4)
  obtain ⟨⟨⟨ds, gs, before, hw, _⟩, hx⟩, _⟩ := hpre
  have hw' := DataW.Whole.of_heap (w' := w.forCall tape i) (by rfl) hw
  have hx' : laidMetH Tryz.prog laidD (w.forCall tape i) := hx.of_heap (by rfl)
  refine (law_calls_gl (C := cx) (d := 5) cx_ok laidOut (by kernel_rfl) (by kernel_rfl) rfl (by kernel_rfl) rfl
    (fun ds hl => by
      rw [Tryz.params4] at hl
      match ds, hl with
      | [d1, d2, d3], _ => rfl) walk (glob_ok hx' hsh) hval hw').mono fun e W' hh => ?_
  obtain ⟨v, he, hp⟩ := hh
  subst he
  exact ChangeSpec.post_blind hp
theorem closedA : (Rows.recordGasesRow.wf (OpenSpec.ofChange Rows.recordGasesSpec) && laidOutB Tryz.prog && mapsRowed Tryz.prog && Tryz.f4.params.all (Tryz.prog.readableRec ·) && namedTie Tryz.prog Rows.recordGasesRow.named Rows.recordGasesSpec.vars && (Rows.recordGasesRow.stops == []) && (Tryz.prog.stops == []) && (Rows.recordGasesRow.knobs == []) && (Tryz.prog.stopKnobs == [])) = true := by kernel_rfl
theorem closedB : (Rows.recordGasesRow.inPlace == Tryz.prog.inPlace 4) = true := by kernel_rfl
theorem closedC : (Rows.recordGasesRow.unfollowed == Tryz.prog.unfollowed 4) = true := by kernel_rfl
theorem closedD : (Rows.recordGasesRow.recurses == Tryz.prog.recurses 4) = true := by kernel_rfl
theorem closedE : (Rows.recordGasesRow.named == Tryz.prog.varsNamed 4) = true := by kernel_rfl
theorem closedF : ((Rows.recordGasesRow.maps == (Tryz.f4.params.toList ++ Rows.recordGasesSpec.plain.varTypes Tryz.prog).any (Tryz.prog.mapsRec ·)) && (Rows.recordGasesRow.ifaces == (Tryz.f4.params.toList ++ Rows.recordGasesSpec.plain.varTypes Tryz.prog).any (Tryz.prog.ifacesRec ·)) && (Rows.recordGasesRow.mapsOut == Tryz.prog.mapsAmong Tryz.f4.resultTypes.toList) && (Rows.recordGasesRow.loops == (Tryz.f4.params.toList ++ Rows.recordGasesSpec.plain.varTypes Tryz.prog).any (Tryz.prog.loopsFrom ·)) && (Rows.recordGasesRow.wideKeys == (Tryz.f4.params.toList ++ Rows.recordGasesSpec.plain.varTypes Tryz.prog ++ Tryz.f4.resultTypes.toList).any (Tryz.prog.wideKeysFrom ·)) && Rows.recordGasesSpec.vars.all (Tryz.prog.varReadable ·) && Tryz.f4.resultTypes.all (fun t => Tryz.prog.readableRec t && decide (t < Tryz.prog.types.size)) && (Rows.recordGasesRow.ifacesOut == Tryz.f4.resultTypes.toList.any (Tryz.prog.ifacesRec ·)) && (Rows.recordGasesRow.loopsOut == Tryz.f4.resultTypes.toList.any (Tryz.prog.loopsFrom ·))) = true := by kernel_rfl
theorem closedG : (Rows.recordGasesRow.plainKeys == Tryz.prog.plainKeys) = true := by kernel_rfl
theorem closedH : (Rows.recordGasesRow.shortTexts.isNone && Tryz.prog.stopsHeard && Tryz.prog.mayEnter && (Rows.recordGasesRow.lifted == Tryz.prog.liftsFinal) && (Tryz.prog.make == some Rows.recordGasesRow.make)) = true := by kernel_rfl
theorem closedI : joinedTail Tryz.prog Tryz.f4 Rows.recordGasesSpec Rows.recordGasesRow = true := by kernel_rfl
theorem closed : joinedFacts Tryz.prog 4 Tryz.f4 Rows.recordGasesSpec Rows.recordGasesRow = true :=
  joined_of closedA closedB closedC closedD closedE closedF closedG closedH closedI
theorem named : Tryz.prog.funcNamed Rows.recordGasesRow.func = some 4 := by kernel_rfl
theorem instanced : Tryz.f4.isInstance Tryz.prog Rows.recordGasesRow.origin Rows.recordGasesRow.targs := of_decide_eq_true (by kernel_rfl)
theorem wrapped : Tryz.f4.isWrapper Tryz.prog Rows.recordGasesRow.wrapper Rows.recordGasesRow.mainSum := by
  unfold Func.isWrapper
  first | (rw [if_pos (by decide +kernel)]; kernel_rfl) | (rw [if_neg (by decide +kernel)]; exact ⟨rfl, rfl⟩)
theorem over : Rows.RecordGasesSaid :=
  OpenClaim.holds_of_wide 4 Tryz.f4 rfl rfl rfl rfl rfl rfl rfl ⟨rfl, rfl, rfl, rfl, rfl⟩ rfl rfl rfl rfl rfl named Tryz.func4 closed
    instanced wrapped
    (fun os started H enc _ => lifted os started H enc)
theorem proved : Rows.RecordGasesCardSaid :=
  Claim7.holds_tied_plain_at .later [] [.data, .data, .data, .data, .sentinel, .sentinel, .widerDeep, .data, .pinned] true (true, "1bad642fbba7ef6c0931803cb05a158f095ac72c07f02f5fb2839c79fb2b9fdf") true
    over (fun _ h => by cases h) (by kernel_rfl) (fun _ h => by cases h) recordGases_row_tie rfl ⟨rfl, rfl⟩ (by kernel_rfl) rfl
    (fun f fn hf hfn => by
      obtain rfl : f = 4 := Option.some.inj ((show Tryz.prog.funcNamed "buchholz/buchholzlaw10.RecordGases" = some 4 by kernel_rfl).symm.trans hf) |>.symm
      obtain rfl : fn = Tryz.f4 := (Option.some.inj (Tryz.func4.symm.trans hfn)).symm
      exact ⟨by kernel_rfl, fun j t ht => by
        have hall : (Tryz.f4.params.toList.all fun u => !Tryz.prog.wantsStandIn u) = true := by kernel_rfl
        have hm : t ∈ Tryz.f4.params.toList := by simpa using Array.mem_of_getElem? ht
        exact (show Tryz.prog.wantsStandIn t = false by simpa using List.all_eq_true.1 hall t hm)⟩)
    (by kernel_rfl)
end Go.Proofs.YtdfdgnggbekhnaaGreatDoor.recordGases
