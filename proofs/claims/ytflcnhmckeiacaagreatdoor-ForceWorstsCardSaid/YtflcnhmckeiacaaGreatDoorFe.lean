/- Framework, part sa: contracts of the library's slices functions, out of the kit's. Program independent. -/
import Derived.Test.YtflcnhmckeiacaaGreatDoorFc
import Derived.Shelf.Slices.Reverse
import Derived.Shelf.Slices.Clone
import Derived.Shelf.Spec.SlicesGrow
import Derived.Test.YtflcnhmckeiacaaGreatDoorFd
namespace Go.Fw
open Go.RowKit (Below)
open Go.Shelf
variable {P : Program} {gl : Glob}

/-- What a value that reads as a list of ints is. -/
theorem rep_ints {mv mr : Mem} {v : Value} {xs : List Int} (h : Rep mv mr v (.ints xs)) : (xs = [] ∧ ∃ a cap, v = .slice a 0 cap) ∨
    ∃ b o cap, v = .slice (some ⟨b, o, none⟩) xs.length cap ∧ xs.length ≤ cap ∧ 0 < xs.length ∧ ∀ j, j < xs.length → mv b (o + j) = some (.int .i64 (xs.getD j 0)) := by
  cases h with
  | empty a cap hv h0 => exact .inl ⟨List.length_eq_zero_iff.1 h0, a, cap, rfl⟩
  | view b o cap z f hv hpos hz hcap hl hc hr =>
    have hpos : 0 < xs.length := hpos
    obtain ⟨e0, he0⟩ := SC.elem_of_lt (c := .ints xs) hpos
    have hz1 : z = 1 := by
      rw [← hl 0 e0 he0]
      simp [SC.elem] at he0
      obtain ⟨a, _, rfl⟩ := he0
      rfl
    subst hz1
    refine .inr ⟨b, o, cap, rfl, hcap, hpos, fun j hj => ?_⟩
    have h1 := hc j (by simpa [SC.len] using hj)
    have h2 := hr j [.lit (.int .i64 (xs.getD j 0))] 0 (.lit (.int .i64 (xs.getD j 0))) (by simp [SC.elem, List.getElem?_eq_getElem hj, List.getD_eq_getElem?_getD]) rfl
    rw [h1]
    simp only [Nat.mul_one, Nat.add_zero] at h2
    rw [rep_lit h2]

theorem repL_one {mv mr : Mem} {vs : Array Value} {c : SC} (h : RepL mv mr vs [(false, [c])]) : ∃ v, vs = #[v] ∧ Rep mv mr v c := by
  obtain ⟨h1, h2⟩ := h
  obtain ⟨c', e, hr⟩ := h2 0 _ rfl
  simp at e
  subst e
  refine ⟨vs.getD 0 undef, ?_, hr⟩
  have h1 : vs.size = 1 := h1
  apply Array.ext
  · simp [h1]
  · intro i hi _
    obtain rfl : i = 0 := by omega
    simp [Array.getD_eq_getD_getElem?, h1]

theorem below_ahead (w : World) (n : Nat) : Below w.heap.size w (Sort.ahead w n) := ⟨rfl, rfl, rfl, Nat.le_refl _, fun _ _ => rfl⟩

theorem putRow_setRow {enc : Int → Value} {w : World} {b : Nat} {arr : Array Value} {T : TypeId} (h : w.heap[b]? = some (.cells arr T)) (d : Array Int) : Sort.putRow enc w b 0 d = w.setRow b (Sort.putCells enc 0 d arr) := by
  have hlt : b < w.heap.size := (Array.getElem?_eq_some_iff.1 h).1
  have hv : w.heap[b] = .cells arr T := (Array.getElem?_eq_some_iff.1 h).2
  unfold Sort.putRow Sort.mapBlock World.setRow
  congr 1
  apply Array.ext
  · simp
  · intro i h1 h2
    simp only [Array.getElem_modify]
    by_cases hi : b = i
    · subst hi
      simp only [if_true, hv, Sort.onCells]
    · simp only [hi, if_false]

/-- slices.Reverse. -/
theorem reverse_upd {ρ : Ren} (L : Proofs.Lays.n112 P ρ) (hok : fnOk P (ρ.f 112) = true) (xs : List Int) (hl : xs.length ≤ 9223372036854775807) : Sat P gl (ρ.f 112) [(false, [.ints xs])] (.upd 1 (.ints xs.reverse)) := by
  refine .inr ⟨.ints xs, rfl, hok, rfl, by simp [SC.len], ?_, ?_, ?_⟩
  · intro i e he
    simp [SC.elem] at he
    obtain ⟨a, _, rfl⟩ := he
    rfl
  · intro h0 w
    refine (Proofs.Any.slices_Reverse_int_empty L none 0 w).mono fun e w' he => ?_
    obtain ⟨rfl, rfl⟩ := he
    exact ⟨rfl, Below.refl _ _⟩
  · intro mv w b cap arr T hb hsz hcap hr
    have hcap : xs.length ≤ cap := hcap
    have hsz : arr.size = cap := by omega
    have hget : ∀ j, j < xs.length → arr[j]? = some (.int .i64 (xs.getD j 0)) := by
      intro j hj
      have h2 := hr j [.lit (.int .i64 (xs.getD j 0))] 0 (.lit (.int .i64 (xs.getD j 0))) (by simp [SC.elem, List.getElem?_eq_getElem hj, List.getD_eq_getElem?_getD]) rfl
      simp only [Nat.mul_one, Nat.add_zero] at h2
      have hj' : j < arr.size := by omega
      have e : arr.getD j undef = arr[j] := by simp [Array.getD_eq_getD_getElem?, hj']
      rw [e] at h2
      rw [Array.getElem?_eq_getElem hj', rep_lit h2]
    have hH : Sort.Holds (Value.int .i64) w b 0 xs.toArray := by
      intro j hj
      have hj : j < xs.length := by simpa using hj
      constructor
      · simp only [World.cell?, hb, Nat.zero_add]
        rw [hget j hj]
        simp [List.getD_eq_getElem?_getD, hj]
      · simp [World.frozen?, hb]
    refine (Proofs.Any.slices_Reverse_int L b 0 cap xs w hH hl).mono fun e w' he => ?_
    obtain ⟨rfl, n, rfl⟩ := he
    have hb1 : (Sort.ahead w n).heap[b]? = some (.cells arr T) := hb
    refine ⟨rfl, Sort.ahead w n, Sort.putCells (Value.int .i64) 0 xs.reverse.toArray arr, below_ahead w n, putRow_setRow hb1 _, by simp [Sort.putCells], ?_⟩
    intro i e j x he hx
    simp only [SC.elem, Option.map_eq_some_iff] at he
    obtain ⟨a, ha, rfl⟩ := he
    have hi : i < xs.length := by have := (List.getElem?_eq_some_iff.1 ha).1; simpa using this
    cases j with
    | zero =>
      simp at hx
      subst hx
      have hi' : i < arr.size := by omega
      have hg : (Sort.putCells (Value.int .i64) 0 xs.reverse.toArray arr)[i]? = some (.int .i64 a) := by
        simp only [Sort.putCells, Array.getElem?_mapIdx, Array.getElem?_eq_getElem hi', Option.map_some, Nat.zero_le, true_and, Nat.zero_add, Nat.sub_zero]
        rw [if_pos (by simpa using hi)]
        have : xs.reverse.toArray[i]! = a := by
          rw [getElem!_pos _ _ (by simpa using hi)]
          have := (List.getElem?_eq_some_iff.1 ha).2
          simpa using this
        rw [this]
      simp only [Nat.mul_one, Nat.add_zero]
      rw [Array.getD_eq_getD_getElem?, hg]
      exact .lit rfl
    | succ j => simp at hx

/-- slices.Clone of ints, some. -/
theorem clone_own {ρ : Ren} (L : Proofs.Lays2.n15 P ρ) (hok : fnOk P (ρ.f 15) = true) (xs : List Int) (h0 : 0 < xs.length) (hl : xs.length ≤ 4294967296) : Sat P gl (ρ.f 15) [(false, [.ints xs])] (.own 1 (.ints xs)) := by
  refine .inl ⟨hok, fun mv w vs hmv _ hvs => ?_⟩
  obtain ⟨v, rfl, hr⟩ := repL_one hvs
  rcases rep_ints hr with ⟨rfl, _⟩ | ⟨b, o, cap, rfl, hcap, _, hc⟩
  · simp at h0
  refine (Proofs.Any.slices_Clone_int L b o xs.length cap xs w (Nat.le_refl _) (by omega) fun j hj => hmv _ _ _ (hc j hj)).mono fun e w' he => ?_
  obtain ⟨v', rfl, ⟨hlen, hown⟩, hnn, hbel⟩ := he
  refine ⟨v', rfl, hbel, ?_⟩
  rcases hown with ⟨rfl, _⟩ | ⟨g, cp, cur, rfl, hg, hh, hn, _, hsz, htk⟩
  · exact absurd rfl hnn
  refine .inr ⟨g, cp, rfl, hg, cur, _, hh, by simpa using hsz, by omega, rfl, hn, ?_, ?_⟩
  · intro i e he
    simp [SC.elem] at he
    obtain ⟨a, _, rfl⟩ := he
    rfl
  · intro i e j x he hx
    simp only [SC.elem, Option.map_eq_some_iff] at he
    obtain ⟨a, ha, rfl⟩ := he
    have hi : i < xs.length := (List.getElem?_eq_some_iff.1 ha).1
    cases j with
    | zero =>
      simp at hx
      subst hx
      have hg : cur[i]? = some (.int .i64 a) := by
        have e1 : (cur.toList.take (xs.length * 1))[i]? = ((xs.take xs.length).map (Value.int .i64))[i]? := by rw [htk]
        rw [List.getElem?_take_of_lt (by omega), List.take_length, List.getElem?_map, ha] at e1
        simpa using e1
      simp only [Nat.mul_one, Nat.add_zero]
      rw [Array.getD_eq_getD_getElem?, hg]
      exact .lit rfl
    | succ j => simp at hx

/-- slices.Grow of nil. -/
theorem grow_nil {ρ : Ren} (L : Proofs.Lays8.n4 P ρ) (hok : fnOk P (ρ.f 4) = true) {i0 : TypeInfo} {z : Value} (hi0 : P.info? (ρ.t 25) = some i0) (hz0 : i0.zero = some z) (hs0 : i0.size = 1) (hzc : z.cells.size = 1) (hb0 : i0.bytes = 8) (n : Int) (hn : 0 ≤ n ∧ n ≤ 4294967296) :
    SatN P gl (ρ.f 4) [(false, [.nil]), (false, [.st (.lit (.int .i64 n))])] (.own 1 (.ints [])) := by
  refine ⟨hok, fun mv w vs hmv _ hsz hvs => ?_⟩
  obtain ⟨m, rfl⟩ : ∃ m : Nat, n = m := ⟨n.toNat, by omega⟩
  have hsz : vs.size = 2 := hsz
  have e0 : vs.getD 0 undef = .slice none 0 0 := by
    obtain ⟨d, hd, h⟩ := hvs 0 _ rfl
    simp at hd; subst hd; exact h
  have e1 : vs.getD 1 undef = .int .i64 m := by
    obtain ⟨d, hd, h⟩ := hvs 1 _ rfl
    simp at hd; subst hd
    exact rep_lit h
  have hvs : vs = #[.slice none 0 0, .int .i64 m] := by
    apply Array.ext
    · simp [hsz]
    · intro i hi _
      rcases (show i = 0 ∨ i = 1 by omega) with rfl | rfl
      · rw [Array.getD_eq_getD_getElem?, Array.getElem?_eq_getElem hi] at e0; simpa using e0
      · rw [Array.getD_eq_getD_getElem?, Array.getElem?_eq_getElem hi] at e1; simpa using e1
  subst hvs
  by_cases h0 : m = 0
  · subst h0
    refine (Proofs.Any8.slices_Grow_room L none 0 0 0 w (by omega) (by omega) (by omega) (by omega)).mono fun e w' he => ?_
    obtain ⟨rfl, rfl⟩ := he
    exact ⟨_, rfl, Below.refl _ _, .inl ⟨rfl, rfl, rfl, by omega, fun i e he => by simp [SC.elem] at he⟩⟩
  · refine (Proofs.Any8.slices_Grow_grow L i0 z hi0 hz0 (by omega) none 0 0 m [] w (by omega) (by omega) (by rw [hb0]; omega) (by omega) (by simp) (by simp) (by simp)).mono fun e w' he => ?_
    obtain ⟨rfl, rfl⟩ := he
    have hge := grownCap_ge w (0 + m) 0 (ρ.t 25)
    refine ⟨_, rfl, (Below.refl w.heap.size w).drew.trans (Below.alloc1 w.drew _), .inr ⟨w.heap.size, _, rfl, Nat.le_refl _, _, _, alloc_at w.drew _, ?_, by omega, rfl, by simp [SC.len], fun i e he => by simp [SC.elem] at he, fun i e j x he _ => by simp [SC.elem] at he⟩⟩
    rw [Nat.zero_add] at hge
    simp only [Array.size_append, Builtin.zeroCells, Array.size_map, Array.size_range, hzc, Nat.zero_add]
    simp
    omega

/-- A row of which a view is given away ahead. -/
theorem freeze_sub {E : Env} {Hh : Hp} {nx : Nat} (id : Nat) {m : Bool} {z : Nat} {c : SC} (hb : Hh.get id = some (.row m z c)) : Sub ⟨E, Hh, nx⟩ ⟨E, (id, some (.row false z c)) :: Hh, nx⟩ := by
  rintro F nt a w ⟨N, ⟨q1, q2, q0, β, q3, q4⟩, q5⟩
  have hg : Give { P := default, gl := [], ty := [] } Hh.get [(id, some (.row false z c))] := Give.of_freeze fun p hp => by
    rw [List.mem_singleton] at hp; subst hp
    exact ⟨m, z, c, hb, rfl⟩
  have ht : Tr F β N Hh.get w β N (Hp.on [(id, some (.row false z c))] Hh.get) w := hg.soft.tr
  refine ⟨N, ⟨q1, q2, q0, β, ?_, ?_⟩, q5⟩
  · have := ht.env q4 q3
    rwa [← Hp.get_append] at this
  · have := hg.heap q4
    rwa [← Hp.get_append] at this

/-- The nil slice, as a row of its own that is empty. -/
theorem nil_sub {E : Env} {Hh : Hp} {nx : Nat} (s z : Nat) (c : SC) (hz : 0 < z) (hv : c.isView = true) (h0 : c.len = 0) (hE : E.get s = some (one .nil)) :
    Sub ⟨E, Hh, nx⟩ ⟨(s, some (one (.own nx))) :: E, (nx, some (.row true z c)) :: Hh, nx + 1⟩ := by
  rintro F nt a w ⟨N, ⟨q1, q2, q0, β, q3, q4⟩, q5⟩
  have hf : ¬ N nx := fun h => Nat.lt_irrefl _ (q5 _ h)
  have hu : ∀ i e, c.elem i = some e → e.length = z := fun i e he => by have := SC.elem_lt he; omega
  have t2 := Tr.new q4 (Below.refl _ w) hf none (by simp) (.row true z c)
  have hN := HeapRel.new q4 (Below.refl _ w) hf none (by simp) (.row true z c) ⟨⟨hz, hv, hu⟩, .inl ⟨by simp [setB], h0⟩⟩
  rw [← Hp.get_cons] at t2 hN
  refine ⟨Fw.setN N nx, ⟨q1, q2, q0, setB β nx none, ?_, hN⟩, fun id h => ?_⟩
  · intro u dv hu
    rw [Env.get_cons] at hu
    simp only at hu
    split at hu
    · rename_i e
      subst e
      cases hu
      have hnil : a.tmps.getD u undef = .slice none 0 0 := (q3 u _ hE).one_inv
      refine repOne ⟨.inr rfl, by rw [hnil]; rfl, fun m' z' c' hb => ?_⟩
      rw [Hp.get_cons, updH_same] at hb
      cases hb
      exact .inl ⟨by simp [setB], h0, hnil⟩
    · exact t2.env q4 q3 u dv hu
  · rcases h with h | h
    · exact Nat.lt_succ_of_lt (q5 _ h)
    · rw [h]; exact Nat.lt_succ_self _

end Go.Fw

/- Framework, part se: contracts used in walks by hand: values of known shape, calls by contract. Program independent. -/
namespace Go.Fw
open Go.RowKit (Below)
variable {P : Program} {gl : Glob}

theorem arr_two {vs : Array Value} (h : vs.size = 2) : vs = #[vs.getD 0 undef, vs.getD 1 undef] := by
  apply Array.ext
  · simp [h]
  · intro i hi _
    rcases (show i = 0 ∨ i = 1 by omega) with rfl | rfl <;> simp [Array.getD_eq_getD_getElem?, h]
/-- An array is the list of its cells. -/
theorem arr_map {vs : Array Value} {n : Nat} (h : vs.size = n) : vs = ((List.range n).map fun i => vs.getD i undef).toArray := by
  apply Array.ext
  · simp [h]
  · intro i hi _
    simp [Array.getD_eq_getD_getElem?, hi]
theorem repB_one {mv mr : Mem} {v : Value} {c : SC} (h : RepB mv mr v (false, [c])) : Rep mv mr v c := by
  obtain ⟨c', e, hr⟩ := h
  simp at e
  subst e
  exact hr
theorem repB_agg {mv mr : Mem} {v : Value} {cs : List SC} (h : RepB mv mr v (true, cs)) : ∃ f : Nat → Value, v = .agg ((List.range cs.length).map f).toArray ∧ ∀ k c, cs[k]? = some c → Rep mv mr (f k) c := by
  obtain ⟨arr, rfl, h1, h2⟩ := h
  exact ⟨fun i => arr.getD i undef, by rw [← arr_map h1], h2⟩
theorem repL_list {mv mr : Mem} {vs : Array Value} {l : List SV} (h : RepL mv mr vs l) : ∃ f : Nat → Value, vs = ((List.range l.length).map f).toArray ∧ ∀ k x, l[k]? = some x → RepB mv mr (f k) x :=
  ⟨fun i => vs.getD i undef, arr_map h.1, h.2⟩
/-- What is read of static memory is read later. -/
theorem mv_below {mv : Mem} {w w' : World} {n : Nat} (hm : mv.le (rd w)) (hb : Below n w w') (hn : w.heap.size ≤ n) : mv.le (rd w') := by
  intro b o v h
  have h1 := hm b o v h
  have hlt : b < w.heap.size := World.block_lt_of_cell? _ _ h1
  show w'.cell? ⟨b, o, none⟩ = some v
  rw [hb.cell (p := ⟨b, o, none⟩) (show b < n by omega)]
  exact h1
/-- A call by contract. -/
theorem Sat.call {f : FuncId} {args : List SV} {x : SV} (h : Sat P gl f args (.one x)) {mv : Mem} {w : World} {vs : Array Value} (hm : mv.le (rd w)) (hG : GlobOK gl (rd w)) (ha : RepL mv (rd w) vs args) :
    Calls P f vs w fun e w' => ∃ v, e = .returned v ∧ Below w.heap.size w w' ∧ RepB (mvAfter mv w.heap.size w') nomem v x := by
  rcases h with h | h
  · exact h.2 mv w vs hm hG ha
  · exact h.elim
theorem Sat.callT {f : FuncId} {args : List SV} {l : List SV} (h : Sat P gl f args (.tup l)) {mv : Mem} {w : World} {vs : Array Value} (hm : mv.le (rd w)) (hG : GlobOK gl (rd w)) (ha : RepL mv (rd w) vs args) :
    Calls P f vs w fun e w' => ∃ v, e = .returned v ∧ Below w.heap.size w w' ∧ ∃ arr, v = .tuple arr ∧ RepL (mvAfter mv w.heap.size w') nomem arr l := by
  rcases h with h | h
  · exact h.2 mv w vs hm hG ha
  · exact h.elim
end Go.Fw

/- Framework, part sg: the rule for a loop over a function. Program independent. -/
namespace Go.Fw
open Go.RowKit (Below)
theorem glob_below {gl : Glob} {w W : World} (h : GlobOK gl (rd w)) (hb : Below w.heap.size w W) : GlobOK gl (rd W) := by
  intro g cs hm
  obtain ⟨h1, h2⟩ := h g cs hm
  refine ⟨fun k x hk => ?_, fun h0 => ?_⟩
  · obtain ⟨v, e, hr⟩ := h1 k x hk
    exact ⟨v, rd_grow hb e, hr⟩
  · obtain ⟨v, e, _⟩ := h1 0 cs[0] (by simp [h0])
    rw [Below.rd_lt hb (World.block_lt_of_cell? _ _ e)]; exact h2 h0
theorem rep_litv {mv mr : Mem} {v x : Value} (h : Rep mv mr v (.lit x)) : v = x := by
  cases h with
  | lit h => rfl
  | empty a cap hv => simp [SC.isView] at hv
  | view _ _ _ _ _ hv => simp [SC.isView] at hv

/-- 'for .. := range f': the rounds one by one. -/
theorem aF {C : Ctx} {g : Operand} {ps : Array Tmp} {x y : Code} {E : Env} {H : Hp} {n0 : Nat} {kn : St → Prop} {kx : Nat → St → Prop} {kr : St → Prop} {gf : FuncId} {first : List SV} {caps : List (List SC)}
    (hg : C.ev E.get g = some (.val (false, [.st (.fn gf first caps)]))) (xs : List (List SV)) (Hs : Nat → Hp) (nx : Nat) (Inv : Nat → Prop) (hit : SatIt C.P C.gl gf first caps xs) (hlen : ∀ r ∈ xs, r.length = ps.size)
    (hfl : (flatC x && (flatC y && (codeFree (keysOf E) x && (codeFree (keysOf E) y && tmpsFree (keysOf E) ps.toList)))) = true) (h0 : Sub ⟨E, H, n0⟩ ⟨E, Hs 0, nx⟩) (hi : Inv 0)
    (hb : ∀ i r, xs[i]? = some r → Inv i → Awp C x ⟨params ps.toList r E, Hs i, nx⟩ (fun S1 => Awp C y S1 (fun S2 => Inv (i + 1) ∧ Sub S2 ⟨E, Hs (i + 1), nx⟩) (fun _ _ => False) (fun S2 => ∃ Hr nr, Sub S2 ⟨E, Hr, nr⟩ ∧ kr ⟨E, Hr, nr⟩)) (fun _ _ => False) (fun _ => False))
    (hd : Inv xs.length → kn ⟨E, Hs xs.length, nx⟩) : Awp C (.rangeFunc g ps x y) ⟨E, H, n0⟩ kn kx kr := by
  refine ⟨?_⟩
  unfold awp
  simp only [hg]
  obtain ⟨f1, hfl⟩ := ble_and hfl
  obtain ⟨f2, hfl⟩ := ble_and hfl
  obtain ⟨f3, hfl⟩ := ble_and hfl
  obtain ⟨f4, f5⟩ := ble_and hfl
  exact ⟨xs, Hs, nx, Inv, hit, hlen, ⟨f1, f2, f3, f4, f5⟩, h0, hi, fun i r hr hv => awp_mono (hb i r hr hv).out (fun S1 h => ⟨S1, Sub.refl _, h.out⟩) (fun _ _ h => h) fun _ h => h, hd⟩
end Go.Fw
