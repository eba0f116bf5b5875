/-
  The law RecordPlants of chapter 10 returns true for every plant and every name, and leaves its arguments as they were, where the tables and errors hold what their text lays.
-/

import Derived.Test.YtnbfdfmphbehoaaGreatDoorNc
import Derived.Test.YtnbfdfmphbehoaaGreatDoorRp
import Derived.Test.YtnbfdfmphbehoaaGreatDoorDr
import Derived.Test.YtnbfdfmphbehoaaGreatDoorTie
import Derived.Test.YtnbfdfmphbehoaaGreatDoorCards
namespace Go.Proofs.YtnbfdfmphbehoaaGreatDoor.recordPlants
open Go.Fw Go.ChangeShapes Go.WideShapes Go.ChangeAt Go.RowKit Go.Proofs.Tryz
set_option maxRecDepth 100000 in
theorem walk (xs : List SV) (h : FitL cx 6 Tryz.f3.params.toList xs) : Sat cx.P cx.gl 3 xs (.one (false, [.lit (.bool true)])) := by
  rw [Tryz.params3] at h
  obtain ⟨x, y, rfl, h1, h2⟩ := fitL2 (t := 27) (u := 9) h
  obtain ⟨p, rfl, ⟨a1, a2, a3, a4⟩, b1, b2⟩ := fit_plant h1
  obtain ⟨n, rfl, _⟩ := fit_name h2
  exact law_plants awake_sat p n a1 a2 a3 a4 (fun i hi => b1 _ (at_mem hi _)) (fun i hi => b2 _ (at_mem hi _))
set_option maxRecDepth 100000 in
theorem lifted (os : Os) (started : os.Started) (H : Type) (enc : TypeId × Value → H) :
    ReturnsInHanded {} Tryz.checked os 3 .any (fun w args => (Rows.recordPlantsSpec.pre enc Tryz.prog Tryz.f3 [] false w args ∧ laidMetH Tryz.prog laidD w) ∧ sizedMet enc Tryz.prog Tryz.f3 (OpenSpec.ofChange Rows.recordPlantsSpec) false w args)
      (Rows.recordPlantsSpec.post enc Tryz.prog Tryz.f3 false true false false) := by
  refine returnsInHanded_of_calls (C := Tryz.checked) own started (by kernel_rfl)
    (ChangeSpec.witness_shaped (enc := enc) (C := Tryz.checked) (os := os) (X := fun w _ => laidMetH Tryz.prog laidD w) false (World.laidAll Tryz.prog os laidD) #[.agg #[.slice none 0 0, .slice none 0 0, .slice none 0 0, .slice none 0 0, .int .i64 0, .int .i64 0], .string (ByteArray.mk #[])] 8 (World.laidAll_os _ _ _) (World.shaped_of_ZipB (by kernel_rfl) (by kernel_rfl)) (by kernel_rfl) (by kernel_rfl) (by kernel_rfl) (door_met os _)) ?_
  intro w tape i _ hsh _ hok hpre _
  obtain ⟨_, _, _, fn', hfn', _, _, _, _, hval⟩ := hok
  obtain rfl : fn' = Tryz.f3 := Option.some.inj (hfn'.symm.trans Tryz.func3)
  obtain ⟨⟨⟨ds, gs, before, hw, _⟩, hx⟩, _⟩ := hpre
  have hw' := DataW.Whole.of_heap (w' := w.forCall tape i) (by rfl) hw
  have hx' : laidMetH Tryz.prog laidD (w.forCall tape i) := hx.of_heap (by rfl)
  refine (law_calls_gl (C := cx) (d := 6) cx_ok laidOut (by kernel_rfl) (by kernel_rfl) rfl (by kernel_rfl) rfl
    (fun ds hl => by
      rw [Tryz.params3] at hl
      match ds, hl with
      | [d1, d2], _ => rfl) walk (glob_ok hx' hsh) hval hw').mono fun e W' hh => ?_
  obtain ⟨v, he, hp⟩ := hh
  subst he
  exact ChangeSpec.post_blind hp
theorem closedA : (Rows.recordPlantsRow.wf (OpenSpec.ofChange Rows.recordPlantsSpec) && laidOutB Tryz.prog && mapsRowed Tryz.prog && Tryz.f3.params.all (Tryz.prog.readableRec ·) && namedTie Tryz.prog Rows.recordPlantsRow.named Rows.recordPlantsSpec.vars && (Rows.recordPlantsRow.stops == []) && (Tryz.prog.stops == []) && (Rows.recordPlantsRow.knobs == []) && (Tryz.prog.stopKnobs == [])) = true := by kernel_rfl
theorem closedB : (Rows.recordPlantsRow.inPlace == Tryz.prog.inPlace 3) = true := by kernel_rfl
theorem closedC : (Rows.recordPlantsRow.unfollowed == Tryz.prog.unfollowed 3) = true := by kernel_rfl
theorem closedD : (Rows.recordPlantsRow.recurses == Tryz.prog.recurses 3) = true := by kernel_rfl
theorem closedE : (Rows.recordPlantsRow.named == Tryz.prog.varsNamed 3) = true := by kernel_rfl
theorem closedF : ((Rows.recordPlantsRow.maps == (Tryz.f3.params.toList ++ Rows.recordPlantsSpec.plain.varTypes Tryz.prog).any (Tryz.prog.mapsRec ·)) && (Rows.recordPlantsRow.ifaces == (Tryz.f3.params.toList ++ Rows.recordPlantsSpec.plain.varTypes Tryz.prog).any (Tryz.prog.ifacesRec ·)) && (Rows.recordPlantsRow.mapsOut == Tryz.prog.mapsAmong Tryz.f3.resultTypes.toList) && (Rows.recordPlantsRow.loops == (Tryz.f3.params.toList ++ Rows.recordPlantsSpec.plain.varTypes Tryz.prog).any (Tryz.prog.loopsFrom ·)) && (Rows.recordPlantsRow.wideKeys == (Tryz.f3.params.toList ++ Rows.recordPlantsSpec.plain.varTypes Tryz.prog ++ Tryz.f3.resultTypes.toList).any (Tryz.prog.wideKeysFrom ·)) && Rows.recordPlantsSpec.vars.all (Tryz.prog.varReadable ·) && Tryz.f3.resultTypes.all (fun t => Tryz.prog.readableRec t && decide (t < Tryz.prog.types.size)) && (Rows.recordPlantsRow.ifacesOut == Tryz.f3.resultTypes.toList.any (Tryz.prog.ifacesRec ·)) && (Rows.recordPlantsRow.loopsOut == Tryz.f3.resultTypes.toList.any (Tryz.prog.loopsFrom ·))) = true := by kernel_rfl
theorem closedG : (Rows.recordPlantsRow.plainKeys == Tryz.prog.plainKeys) = true := by kernel_rfl
theorem closedH : (Rows.recordPlantsRow.shortTexts.isNone && Tryz.prog.stopsHeard && Tryz.prog.mayEnter && (Rows.recordPlantsRow.lifted == Tryz.prog.liftsFinal) && (Tryz.prog.make == some Rows.recordPlantsRow.make)) = true := by kernel_rfl
theorem closedI : joinedTail Tryz.prog Tryz.f3 Rows.recordPlantsSpec Rows.recordPlantsRow = true := by kernel_rfl
theorem closed : joinedFacts Tryz.prog 3 Tryz.f3 Rows.recordPlantsSpec Rows.recordPlantsRow = true :=
  joined_of closedA closedB closedC closedD closedE closedF closedG closedH closedI
theorem named : Tryz.prog.funcNamed Rows.recordPlantsRow.func = some 3 := by kernel_rfl
theorem instanced : Tryz.f3.isInstance Tryz.prog Rows.recordPlantsRow.origin Rows.recordPlantsRow.targs := of_decide_eq_true (by kernel_rfl)
theorem wrapped : Tryz.f3.isWrapper Tryz.prog Rows.recordPlantsRow.wrapper Rows.recordPlantsRow.mainSum := by
  unfold Func.isWrapper
  first | (rw [if_pos (by decide +kernel)]; kernel_rfl) | (rw [if_neg (by decide +kernel)]; exact ⟨rfl, rfl⟩)
theorem over : Rows.RecordPlantsSaid :=
  OpenClaim.holds_of_wide 3 Tryz.f3 rfl rfl rfl rfl rfl rfl rfl ⟨rfl, rfl, rfl, rfl, rfl⟩ rfl rfl rfl rfl rfl named Tryz.func3 closed
    instanced wrapped
    (fun os started H enc _ => lifted os started H enc)
theorem cardA : Rows.recordPlantsRow.wfByText (OpenSpec.ofChange Rows.recordPlantsSpec) = true := by kernel_rfl
theorem cardC : Tryz.pinned.checked.prog.mainIs = some (true, ("52c9fa4b4156480717b8a5c073b659c546183098864b537aa26ae4dfe4be7bf9" : String).toList) := by kernel_rfl
theorem cardD : true = Tryz.prog.looks [] := by kernel_rfl
theorem cardE : (Tryz.f3.params.toList.all fun u => !Tryz.prog.wantsStandIn u) = true := by kernel_rfl
theorem cardF : false = Rows.recordPlantsRow.goesBy Tryz.prog := by kernel_rfl
theorem cardG : Tryz.prog.funcNamed "buchholz/buchholzlaw10.RecordPlants" = some 3 := named
theorem cardH (f : FuncId) (fn : Func) (hf : Tryz.prog.funcNamed "buchholz/buchholzlaw10.RecordPlants" = some f) (hfn : Tryz.prog.funcs[f]? = some fn) : true = Tryz.prog.looks [] ∧ ∀ (j : Nat) t, fn.params[j]? = some t → Tryz.prog.wantsStandIn t = false := by
  obtain rfl : f = 3 := Option.some.inj (cardG.symm.trans hf) |>.symm
  obtain rfl : fn = Tryz.f3 := (Option.some.inj (Tryz.func3.symm.trans hfn)).symm
  exact ⟨cardD, fun j t ht => by
    have hm : t ∈ Tryz.f3.params.toList := by simpa using Array.mem_of_getElem? ht
    exact (show Tryz.prog.wantsStandIn t = false by simpa using List.all_eq_true.1 cardE t hm)⟩
theorem proved : Rows.RecordPlantsCardSaid :=
  Claim7.holds_tied_plain_at .later [] [.data, .data, .data, .data, .sentinel, .sentinel, .widerDeep, .data, .pinned] true (true, "52c9fa4b4156480717b8a5c073b659c546183098864b537aa26ae4dfe4be7bf9") true
    over (fun _ h => by cases h) cardA (fun _ h => by cases h) recordPlants_row_tie rfl ⟨rfl, rfl⟩ cardC rfl cardH cardF
end Go.Proofs.YtnbfdfmphbehoaaGreatDoor.recordPlants
