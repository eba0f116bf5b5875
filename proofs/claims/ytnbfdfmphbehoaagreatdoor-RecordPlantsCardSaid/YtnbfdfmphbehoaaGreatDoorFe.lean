/- Framework, strings: their bytes as lists; clean steps. Program independent. -/

import Derived.Test.YtnbfdfmphbehoaaGreatDoorFc
import Derived.Lib.Strings
import Derived.Shelf.Slices.Reverse
import Derived.Shelf.Slices.Clone
import Derived.Shelf.Spec.SlicesGrow
import Derived.Shelf.Strconv.Itoa3
import Derived.Shelf.Strconv.AtoiAll
import Derived.Shelf.Strings.Split
import Derived.Shelf.Strings.OnBuilder
import Derived.Shelf.Strings.Prefix
import Derived.Lib.AppendIntMem
import Derived.Lib.SmallJoins
import Derived.Lib.AtoiAll
import Derived.Lib.ItoaNum
import Derived.Lib.Split
import Derived.Lib.Join
import Derived.Lib.AtoiAllCases
import Derived.Shelf.Strings.Cut
import Derived.Test.YtnbfdfmphbehoaaGreatDoorFd
namespace Go.Fw
open Go.RowKit (Below)
def B (l : List UInt8) : ByteArray := ⟨l.toArray⟩
abbrev lS (l : List UInt8) : Option DV := some (lit (.string (B l)))
theorem B_data (l : List UInt8) : (B l).data.toList = l := by simp [B]
theorem B_size (l : List UInt8) : (B l).size = l.length := by rw [Lib.size_eq, B_data]
theorem B_of (s : ByteArray) : B s.data.toList = s := Lib.mk_data s
theorem B_cat (a b : List UInt8) : B a ++ B b = B (a ++ b) := by
  rw [← B_of (B a ++ B b)]
  exact congrArg B (by simp [B])
theorem B_list (l : List UInt8) : (B l).toList = l := by rw [Lib.toList_data, B_data]
theorem B_get (l : List UInt8) (i : Nat) : (B l)[i]? = l[i]? := by
  have : (B l)[i]? = (B l).data[i]? := by
    simp only [getElem?_def]
    rfl
  rw [this]; simp [B]
theorem B_ext (l : List UInt8) (a b : Nat) : (B l).extract a b = B ((l.take b).drop a) := by
  rw [Lib.extract_eq, B_data]
  show (⟨_⟩ : ByteArray) = ⟨_⟩
  congr 2
  rw [List.drop_take]
section
variable {C : Ctx} {fid : Nat} {o : Oper} {E : Env} {H : Hp} {t : Trace} {k : Env → Hp → Trace → Prop} {T : TypeId} {x y : Operand} {p : TypeId} {a b : List UInt8}
theorem opA_str {op : BinOp} (ho : o.op = .binOp op T x y p) (hx : C.ev E.get x = lS a) (hy : C.ev E.get y = lS b) : opA C fid o (C.ev E.get) H.get = fun K => strBin op (B a) (B b) fun v => K (lit v) [] [] := by
  funext K
  unfold opA
  rw [ho]
  simp only [hx, hy, binA]
  unfold litBin
  cases op <;> rfl
theorem rSCat (ho : o.op = .binOp .add T x y p) (hx : C.ev E.get x = lS a) (hy : C.ev E.get y = lS b) (hb : a.length + b.length ≤ 1000000000000)
    (h2 : putK o.dst (lit (.string (B (a ++ b)))) E fun E' => k E' H (([], []) :: t)) : RunO C fid o E H t k := by
  refine rG (r := lit (.string (B (a ++ b)))) (u := []) (R := []) (fun K hK => ?_) h2
  rw [opA_str ho hx hy]
  exact ⟨by rw [B_size, B_size]; omega, by rw [B_cat]; exact hK⟩
theorem rSEq (ho : o.op = .binOp .eql T x y p) (hx : C.ev E.get x = lS a) (hy : C.ev E.get y = lS b)
    (h2 : putK o.dst (lit (.bool (decide (a = b)))) E fun E' => k E' H (([], []) :: t)) : RunO C fid o E H t k := by
  refine rG (r := lit (.bool (decide (a = b)))) (u := []) (R := []) (fun K hK => ?_) h2
  rw [opA_str ho hx hy]
  show K (lit (.bool ((B a).toList == (B b).toList))) [] []
  rw [B_list, B_list, show (a == b) = decide (a = b) by rw [Bool.eq_iff_iff]; simp]
  exact hK
theorem rSNe (ho : o.op = .binOp .neq T x y p) (hx : C.ev E.get x = lS a) (hy : C.ev E.get y = lS b)
    (h2 : putK o.dst (lit (.bool (!decide (a = b)))) E fun E' => k E' H (([], []) :: t)) : RunO C fid o E H t k := by
  refine rG (r := lit (.bool (!decide (a = b)))) (u := []) (R := []) (fun K hK => ?_) h2
  rw [opA_str ho hx hy]
  show K (lit (.bool !((B a).toList == (B b).toList))) [] []
  rw [B_list, B_list, show (a == b) = decide (a = b) by rw [Bool.eq_iff_iff]; simp]
  exact hK
theorem rSLen {c : Call} {i : TI} {tt : TypeId} {ts : List TypeId} (ho : o.op = .call c) (hc : c.callee = .builtin .len) (ha : c.argTypes.toList = tt :: ts) (hx : (c.args.toList.map (C.ev E.get)) = [lS a]) (hi : C.ti tt = some i) (hcl : i.cls = .str)
    (h2 : putK o.dst (lit (.int .i64 (a.length : Nat))) E fun E' => k E' H (([], []) :: t)) : RunO C fid o E H t k := by
  refine rG (r := lit (.int .i64 (a.length : Nat))) (u := []) (R := []) (fun K hK => ?_) h2
  unfold opA
  rw [ho]
  have hx' : (c.args.toList.map (C.ev E.get)) = [some (.val (false, [.st (.lit (.string (B a)))]))] := hx
  simp only [hc, ha, hx']
  unfold builtinA
  simp only [hi, hcl]
  show K (lit (.int .i64 ((B a).size : Nat))) [] []
  rw [B_size]; exact hK
theorem rSIdx {i : TI} {zz : Int} {n : Nat} {k' : IntKind} [nz : NatOf zz n] (ho : o.op = .index T x y) (hx : C.ev E.get x = lS a) (hy : C.ev E.get y = some (lit (.int k' zz))) (hi : C.ti T = some i) (hcl : i.cls = .str) (hb : 0 ≤ zz ∧ n < a.length)
    (h2 : putK o.dst (lit (.int .u8 ((a.getD n 0).toNat : Nat))) E fun E' => k E' H (([], []) :: t)) : RunO C fid o E H t k := by
  refine rG (r := lit (.int .u8 ((a.getD n 0).toNat : Nat))) (u := []) (R := []) (fun K hK => ?_) h2
  unfold opA
  rw [ho]
  simp only [hx, hy]
  simp only [indexA, hi, hcl]
  refine ⟨hb.1, a.getD n 0, ?_, hK⟩
  have e : zz.toNat = n := by rw [nz.eq]; simp
  rw [e, B_get, List.getD_eq_getElem?_getD, List.getElem?_eq_getElem hb.2]
  rfl
theorem rSSlL {i : TI} {zz : Int} {n : Nat} {k' : IntKind} [nz : NatOf zz n] (ho : o.op = .slice T x (some y) none none) (hx : C.ev E.get x = lS a) (hy : C.ev E.get y = some (lit (.int k' zz))) (hi : C.ti T = some i) (hcl : i.cls = .str) (hb : 0 ≤ zz ∧ n ≤ a.length)
    (h2 : putK o.dst (lit (.string (B (a.drop n)))) E fun E' => k E' H (([], []) :: t)) : RunO C fid o E H t k := by
  refine rG (r := lit (.string (B (a.drop n)))) (u := []) (R := []) (fun K hK => ?_) h2
  have e : zz.toNat = n := by rw [nz.eq]; simp
  unfold opA
  rw [ho]
  simp only [hx, Option.map_some, hy, Option.map_none]
  simp only [sliceA, hi, hcl, bnd]
  refine ⟨hb.1, ⟨by rw [B_size, e]; exact hb.2, Nat.le_refl _⟩, ?_⟩
  rw [e, B_size, B_ext, List.take_length]
  exact hK
theorem rSSlH {i : TI} {zz : Int} {n : Nat} {k' : IntKind} [nz : NatOf zz n] (ho : o.op = .slice T x none (some y) none) (hx : C.ev E.get x = lS a) (hy : C.ev E.get y = some (lit (.int k' zz))) (hi : C.ti T = some i) (hcl : i.cls = .str) (hb : 0 ≤ zz ∧ n ≤ a.length)
    (h2 : putK o.dst (lit (.string (B (a.take n)))) E fun E' => k E' H (([], []) :: t)) : RunO C fid o E H t k := by
  refine rG (r := lit (.string (B (a.take n)))) (u := []) (R := []) (fun K hK => ?_) h2
  have e : zz.toNat = n := by rw [nz.eq]; simp
  unfold opA
  rw [ho]
  simp only [hx, Option.map_some, hy, Option.map_none]
  simp only [sliceA, hi, hcl, bnd]
  refine ⟨hb.1, ⟨Nat.zero_le _, by rw [B_size, e]; exact hb.2⟩, ?_⟩
  rw [e, B_ext, List.drop_zero]
  exact hK
theorem rSSlB {i : TI} {zz yy : Int} {n m : Nat} {k' k'' : IntKind} {z : Operand} [nz : NatOf zz n] [ny : NatOf yy m] (ho : o.op = .slice T x (some y) (some z) none) (hx : C.ev E.get x = lS a) (hy : C.ev E.get y = some (lit (.int k' zz))) (hz : C.ev E.get z = some (lit (.int k'' yy))) (hi : C.ti T = some i) (hcl : i.cls = .str) (hb : (0 ≤ zz ∧ 0 ≤ yy) ∧ n ≤ m ∧ m ≤ a.length)
    (h2 : putK o.dst (lit (.string (B ((a.take m).drop n)))) E fun E' => k E' H (([], []) :: t)) : RunO C fid o E H t k := by
  refine rG (r := lit (.string (B ((a.take m).drop n)))) (u := []) (R := []) (fun K hK => ?_) h2
  have e : zz.toNat = n := by rw [nz.eq]; simp
  have e' : yy.toNat = m := by rw [ny.eq]; simp
  unfold opA
  rw [ho]
  simp only [hx, Option.map_some, hy, hz]
  simp only [sliceA, hi, hcl, bnd]
  refine ⟨hb.1.1, hb.1.2, ⟨by rw [e, e']; exact hb.2.1, by rw [B_size, e']; exact hb.2.2⟩, ?_⟩
  rw [e, e', B_ext]
  exact hK
end
section
variable {C : Ctx} {fid : Nat} {o : Oper} {E : Env} {H : Hp} {t : Trace} {k : Env → Hp → Trace → Prop} {T : TypeId} {x y : Operand} {p : TypeId}
theorem rSub8 {a b : Int} (ho : o.op = .binOp .sub T x y p) (hx : C.ev E.get x = some (lit (.int .u8 a))) (hy : C.ev E.get y = some (lit (.int .u8 b))) (hb : 0 ≤ a - b ∧ a - b ≤ 255)
    (h2 : putK o.dst (lit (.int .u8 (a - b))) E fun E' => k E' H (([], []) :: t)) : RunO C fid o E H t k := by
  refine rG (r := lit (.int .u8 (a - b))) (u := []) (R := []) (fun K hK => ?_) h2
  have e : IntKind.u8.wrap (a - b) = a - b := by rw [IntKind.wrap_u8]; omega
  unfold opA
  rw [ho]
  simp only [hx, hy, lit, binA]
  show K (lit (.int .u8 (IntKind.u8.wrap (a - b)))) [] []
  rw [e]; exact hK
theorem rConv {i j : TI} {kd ks k' : IntKind} {n : Int} {S : TypeId} (ho : o.op = .convert S T x) (hx : C.ev E.get x = some (lit (.int k' n))) (hi : C.ti S = some i) (hj : C.ti T = some j) (hs : i.cls = .int ks) (hd : j.cls = .int kd) (hb : kd.wrap n = n)
    (h2 : putK o.dst (lit (.int kd n)) E fun E' => k E' H (([], []) :: t)) : RunO C fid o E H t k := by
  refine rG (r := lit (.int kd n)) (u := []) (R := []) (fun K hK => ?_) h2
  unfold opA
  rw [ho]
  simp only [hx, lit]
  unfold convA
  simp only [hi, hj, hs, hd]
  rw [hb]; exact hK
theorem cvI {n : Int} (h : -9223372036854775808 ≤ n ∧ n ≤ 9223372036854775807) : IntKind.i64.wrap n = n := IntWalk.i64_in n h
theorem cv8 {n : Int} (h : 0 ≤ n ∧ n ≤ 255) : IntKind.u8.wrap n = n := by rw [IntKind.wrap_u8]; omega
end
end Go.Fw
namespace Go.Fw
open Go.RowKit (Below)
open Go.Shelf
variable {P : Program} {gl : Glob}
theorem repL_one {mv mr : Mem} {vs : Array Value} {c : SC} (h : RepL mv mr vs [(false, [c])]) : ∃ v, vs = #[v] ∧ Rep mv mr v c := by
  obtain ⟨h1, h2⟩ := h
  obtain ⟨c', e, hr⟩ := h2 0 _ rfl
  simp at e
  subst e
  refine ⟨vs.getD 0 undef, ?_, hr⟩
  have h1 : vs.size = 1 := h1
  apply Array.ext
  · simp [h1]
  · intro i hi _
    obtain rfl : i = 0 := by omega
    simp [Array.getD_eq_getD_getElem?, h1]
theorem freeze_sub {E : Env} {Hh : Hp} {nx : Nat} (id : Nat) {m : Bool} {z : Nat} {c : SC} (hb : Hh.get id = some (.row m z c)) : Sub ⟨E, Hh, nx⟩ ⟨E, (id, some (.row false z c)) :: Hh, nx⟩ := by
  rintro F nt a w ⟨N, ⟨q1, q2, q0, β, q3, q4⟩, q5⟩
  have hg : Give { P := default, gl := [], ty := [] } Hh.get [(id, some (.row false z c))] := Give.of_freeze fun p hp => by
    rw [List.mem_singleton] at hp; subst hp
    exact ⟨m, z, c, hb, rfl⟩
  have ht : Tr F β N Hh.get w β N (Hp.on [(id, some (.row false z c))] Hh.get) w := hg.soft.tr
  refine ⟨N, ⟨q1, q2, q0, β, ?_, ?_⟩, q5⟩
  · have := ht.env q4 q3
    rwa [← Hp.get_append] at this
  · have := hg.heap q4
    rwa [← Hp.get_append] at this
theorem nil_sub {E : Env} {Hh : Hp} {nx : Nat} (s z : Nat) (c : SC) (hz : 0 < z) (hv : c.isView = true) (h0 : c.len = 0) (hE : E.get s = some (one .nil)) :
    Sub ⟨E, Hh, nx⟩ ⟨(s, some (one (.own (2 * nx)))) :: E, ((2 * nx), some (.row true z c)) :: Hh, nx + 1⟩ := by
  rintro F nt a w ⟨N, ⟨q1, q2, q0, β, q3, q4⟩, q5⟩
  have hf : ¬ N (2 * nx) := fun h => by have := q5 _ h; rw [tag_even] at this; exact Nat.lt_irrefl _ this
  have hu : ∀ i e, c.elem i = some e → e.length = z := fun i e he => by have := SC.elem_lt he; omega
  have t2 := Tr.new q4 (Below.refl _ w) hf none (by simp) (.row true z c)
  have hN := HeapRel.new q4 (Below.refl _ w) hf none (by simp) (.row true z c) ⟨⟨hz, hv, hu⟩, .inl ⟨by simp [setB], h0⟩⟩
  rw [← Hp.get_cons] at t2 hN
  refine ⟨Fw.setN N (2 * nx), ⟨q1, q2, q0, setB β (2 * nx) none, ?_, hN⟩, fun id h => ?_⟩
  · intro u dv hu
    rw [Env.get_cons] at hu
    simp only at hu
    split at hu
    · rename_i e
      subst e
      cases hu
      have hnil : a.tmps.getD u undef = .slice none 0 0 := (q3 u _ hE).one_inv
      refine repOne ⟨.inr rfl, by rw [hnil]; rfl, fun blk0 z' n' hb hz' => ?_⟩
      rw [Hp.get_cons, updH_same] at hb
      cases hb; cases hz'
      exact .inl ⟨by simp [setB], h0, hnil⟩
    · exact t2.env q4 q3 u dv hu
  · rcases h with h | h
    · exact Nat.lt_succ_of_lt (q5 _ h)
    · rw [h, tag_even]; exact Nat.lt_succ_self _
end Go.Fw
namespace Go.Fw
open Go.RowKit (Below)
open Go.Shelf
variable {P : Program} {gl : Glob}
abbrev SS (l : List UInt8) : SV := (false, [.lit (.string (B l))])
theorem repL_two {mv mr : Mem} {vs : Array Value} {c d : SC} (h : RepL mv mr vs [(false, [c]), (false, [d])]) : ∃ v u, vs = #[v, u] ∧ Rep mv mr v c ∧ Rep mv mr u d := by
  obtain ⟨h1, h2⟩ := h
  obtain ⟨c', e, hr⟩ := h2 0 _ rfl
  obtain ⟨d', e', hr'⟩ := h2 1 _ rfl
  simp at e e'
  subst e e'
  refine ⟨vs.getD 0 undef, vs.getD 1 undef, ?_, hr, hr'⟩
  have h1 : vs.size = 2 := h1
  apply Array.ext
  · simp [h1]
  · intro i hi _
    rcases (show i = 0 ∨ i = 1 by omega) with rfl | rfl <;> simp [Array.getD_eq_getD_getElem?, h1]
theorem rd_heap {w : World} {b o : Nat} {v : Value} (h : rd w b o = some v) : ∃ arr T fr, w.heap[b]? = some (.cells arr T fr) ∧ arr[o]? = some v := by
  unfold rd World.cell? at h
  simp only at h
  split at h
  · rename_i arr T fr e
    exact ⟨arr, T, fr, e, h⟩
  · cases h
theorem tab_is {w : World} {name : String} {g : Nat} {k : IntKind} {zs : List Int} (hn : P.globalNamed name = some g) (hg : (g, zs.map fun z => .lit (.int k z)) ∈ gl) (hG : GlobOK gl (rd w)) (h0 : 0 < zs.length) : Lib.TabIs P w name k zs := by
  obtain ⟨h1, h2⟩ := hG _ _ hg
  have h2 := h2 (by simpa using h0)
  rw [List.length_map] at h2
  obtain ⟨v0, hv0, _⟩ := h1 0 (.lit (.int k zs[0])) (by simp [h0])
  obtain ⟨arr, T, fr, hb, _⟩ := rd_heap hv0
  unfold Lib.TabIs World.var?
  rw [hn]
  simp only [Option.bind_some, hb]
  congr 1
  have hget : ∀ o, rd w g o = arr[o]? := fun o => by simp [rd, World.cell?, hb]
  apply Array.ext'
  rw [List.toList_toArray]
  apply List.ext_getElem?
  intro i
  rw [Array.getElem?_toList, List.getElem?_map]
  by_cases hi : i < zs.length
  · obtain ⟨v, hv, hr⟩ := h1 i (.lit (.int k zs[i])) (by simp [hi])
    rw [hget] at hv
    rw [hv, rep_lit hr, List.getElem?_eq_getElem hi]
    rfl
  · rw [hget] at h2
    have : arr.size ≤ zs.length := by simpa using h2
    rw [List.getElem?_eq_none (by omega : zs.length ≤ i), Array.getElem?_eq_none (by omega)]
    rfl
theorem itoa_gen {ρ : Ren} (L : Proofs.LaysM.n171 P ρ) (hok : fnOk P (ρ.f 171) = true) {g : Nat} (hn : P.globalNamed "internal/strconv.uint64pow10" = some g) (hg : (g, Lib.pow10Tab.map fun z => .lit (.int .u64 z)) ∈ gl)
    (n : Int) (h : -9223372036854775808 ≤ n ∧ n ≤ 9223372036854775807) : Sat P gl (ρ.f 171) [(false, [.lit (.int .i64 n)])] (.one (SS (Lib.itoa n))) := by
  refine .inl ⟨hok, fun mv w vs _ hG hvs => ?_⟩
  obtain ⟨v, rfl, hr⟩ := repL_one hvs
  rw [rep_lit hr]
  refine (Proofs.Any.strconv_Itoa L n h.1 h.2 w (tab_is hn hg hG (by rw [Lib.pow10Tab_length]; decide))).mono fun e w' he => ?_
  obtain ⟨rfl, k, os, rfl⟩ := he
  exact ⟨_, rfl, Lib.below_grow _ w (Nat.le_refl _) k os, ⟨_, rfl, .lit rfl⟩⟩
theorem atoi_ok {ρ : Ren} (L : Proofs.LaysC.n172 P ρ) (hok : fnOk P (ρ.f 172) = true) (s : List UInt8) (hl : s.length ≤ 1000000) {v : Int} (h : Lib.atoiAll s = .ok v) : Sat P gl (ρ.f 172) [SS s] (.tup [(false, [.lit (.int .i64 v)]), (false, [.lit .nilIface])]) := by
  refine .inl ⟨hok, fun mv w vs _ hG hvs => ?_⟩
  obtain ⟨x, rfl, hr⟩ := repL_one hvs
  rw [rep_lit hr]
  refine (Proofs.Any.strconv_Atoi_ok L (B s) (by rw [B_size]; omega) v (by rw [B_data]; exact h) w).mono fun e w' he => ?_
  obtain ⟨rfl, hw⟩ := he
  refine ⟨_, rfl, ?_, #[.int .i64 v, .nilIface], rfl, rfl, fun k x hk => ?_⟩
  · rcases hw with rfl | ⟨t, rfl⟩
    · exact Below.refl _ _
    · exact Lib.bytesWorld_below w _ t
  · match k, hk with
    | 0, hk => simp at hk; subst hk; exact ⟨_, rfl, .lit rfl⟩
    | 1, hk => simp at hk; subst hk; exact ⟨_, rfl, .lit rfl⟩
    | k + 2, hk => simp at hk
theorem atoi_bad {ρ : Ren} (L : Proofs.LaysC.n172 P ρ) (hok : fnOk P (ρ.f 172) = true) (h15 : (ρ.g 15, [SC.err]) ∈ gl) (h16 : (ρ.g 16, [SC.err]) ∈ gl) (s : List UInt8) (hl : s.length ≤ 1000000) (h : ∀ v, Lib.atoiAll s ≠ .ok v) :
    ∃ v, Sat P gl (ρ.f 172) [SS s] (.tup [(false, [.lit (.int .i64 v)]), (false, [.err])]) := by
  have key : ∀ (v : Int) (g : Nat), (g, [SC.err]) ∈ gl → (∀ (ev : Value) (w : World), w.cell? ⟨g, 0, none⟩ = some ev → (ev = .nilIface ∨ ∃ te pe, ev = .iface te pe) → Calls P (ρ.f 172) #[.string (B s)] w fun e w' => ∃ N, e = .returned (.tuple #[.int .i64 v, .iface (ρ.t 168) (.pointer (some ⟨N, 0, none⟩))]) ∧ w.heap.size ≤ N ∧ w'.heap[N]? = some (.cells #[.string ⟨#[65, 116, 111, 105]⟩, .string (B s), ev] (ρ.t 210) (0, 0)) ∧ Below w.heap.size w w') →
      Sat P gl (ρ.f 172) [SS s] (.tup [(false, [.lit (.int .i64 v)]), (false, [.err])]) := by
    intro v g hg hc
    refine .inl ⟨hok, fun mv w vs _ hG hvs => ?_⟩
    obtain ⟨x, rfl, hr⟩ := repL_one hvs
    rw [rep_lit hr]
    obtain ⟨ev, h1, h2⟩ := (hG _ _ hg).1 0 _ rfl
    have hev : ∃ T x, ev = .iface T x := by
      cases h2 with
      | err h => exact h
      | empty a cap hv => simp [SC.isView] at hv
      | view _ _ _ _ _ hv => simp [SC.isView] at hv
    refine (hc ev w h1 (.inr hev)).mono fun e w' he => ?_
    obtain ⟨N, rfl, _, _, hb⟩ := he
    refine ⟨_, rfl, hb, _, rfl, rfl, fun k x hk => ?_⟩
    match k, hk with
    | 0, hk => simp at hk; subst hk; exact ⟨_, rfl, .lit rfl⟩
    | 1, hk => simp at hk; subst hk; exact ⟨_, rfl, .err ⟨_, _, rfl⟩⟩
    | k + 2, hk => simp at hk
  rcases hs : Lib.atoiAll s with v | _ | _
  · exact absurd hs (h v)
  · exact ⟨0, key 0 _ h15 fun ev w h1 h2 => Proofs.Any.strconv_Atoi_syntax L (B s) (by rw [B_size]; omega) (by rw [B_data]; exact hs) ev w h1 h2⟩
  · refine ⟨Lib.atoiSat s, key _ _ h16 fun ev w h1 h2 => ?_⟩
    have := Proofs.Any.strconv_Atoi_range L (B s) (by rw [B_size]; omega) (by rw [B_data]; exact hs) ev w h1 h2
    rw [B_data] at this
    exact this
theorem trimPrefix_gen {ρ : Ren} (L : Proofs.Lays.n101 P ρ) (hok : fnOk P (ρ.f 101) = true) (s p : List UInt8) : Sat P gl (ρ.f 101) [SS s, SS p] (.one (SS (Lib.trimPrefix s p))) := by
  refine .inl ⟨hok, fun mv w vs _ hG hvs => ?_⟩
  obtain ⟨x, y, rfl, hr, hr'⟩ := repL_two hvs
  rw [rep_lit hr, rep_lit hr']
  refine (Proofs.Any.strings_TrimPrefix L (B s) (B p) w).mono fun e w' he => ?_
  obtain ⟨rfl, rfl⟩ := he
  rw [B_data, B_data]
  exact ⟨_, rfl, Below.refl _ _, ⟨_, rfl, .lit rfl⟩⟩
def cutS (s : List UInt8) (c : UInt8) : List (List UInt8) := Lib.splitK [c] 0 (Lib.countB (B s) (B [c])) s
abbrev strs (l : List (List UInt8)) : List (List SC) := l.map fun w => [.lit (.string (B w))]
theorem strs_elem {l : List (List UInt8)} {i : Nat} {e : List SC} (h : (SC.view (strs l)).elem i = some e) : ∃ w, l[i]? = some w ∧ e = [.lit (.string (B w))] := by
  simp only [SC.elem, List.getElem?_map, Option.map_eq_some_iff] at h
  obtain ⟨w, h1, h2⟩ := h
  exact ⟨w, h1, h2.symm⟩
theorem split_gen {ρ : Ren} (L : Proofs.Lays.n146 P ρ) (hok : fnOk P (ρ.f 146) = true) (hi9 : (P.info? (ρ.t 9)).map (fun i => (i.zero, i.size, i.bytes)) = some (some (.string ByteArray.empty), 1, 16))
    (hg : (ρ.g 1, [SC.num .i64]) ∈ gl) (s : List UInt8) (c : UInt8) (hl : s.length ≤ 1000000) (hlen : (cutS s c).length = Lib.countB (B s) (B [c]) + 1) : Sat P gl (ρ.f 146) [SS s, SS [c]] (.own 1 (.view (strs (cutS s c)))) := by
  refine .inl ⟨hok, fun mv w vs _ hG hvs => ?_⟩
  obtain ⟨x, y, rfl, hr, hr'⟩ := repL_two hvs
  rw [rep_lit hr, rep_lit hr']
  obtain ⟨ev, h1, h2⟩ := (hG _ _ hg).1 0 _ rfl
  have hev : ∃ m, ev = .int .i64 m := by
    cases h2 with
    | num h => exact h
    | empty a cap hv => simp [SC.isView] at hv
    | view _ _ _ _ _ hv => simp [SC.isView] at hv
  obtain ⟨m, rfl⟩ := hev
  refine (Proofs.Any.strings_Split L hi9 (B s) (B [c]) m w (by rw [B_size]; omega) h1 (by rw [B_size]; exact Nat.le_refl 1)).mono fun e w' he => ?_
  obtain ⟨rfl, rfl⟩ := he
  have hsp : (Lib.splitB (B [c]) 0 (Lib.countB (B s) (B [c])) (B s)) = (cutS s c).map B := by
    have h := Lib.splitB_data (B [c]) 0 (Lib.countB (B s) (B [c])) (B s)
    rw [B_data, B_data] at h
    have : (cutS s c).map B = ((Lib.splitB (B [c]) 0 (Lib.countB (B s) (B [c])) (B s)).map (·.data.toList)).map B := by rw [h]; rfl
    rw [this, List.map_map]
    have e : (B ∘ fun x : ByteArray => x.data.toList) = id := by funext x; exact B_of x
    rw [e, List.map_id]
  rw [hsp]
  refine ⟨_, rfl, Below.alloc1 _ _, .inr ⟨w.heap.size, _, by rw [show (SC.view (strs (cutS s c))).len = Lib.countB (B s) (B [c]) + 1 by simp [SC.len, hlen]], Nat.le_refl _, _, _, alloc_at w _, by simp [hlen], by decide, rfl, by simp [SC.len, hlen], fun i e he => ?_, fun i e j x he hx => ?_⟩⟩
  · obtain ⟨u, _, rfl⟩ := strs_elem he; rfl
  · obtain ⟨u, hu, rfl⟩ := strs_elem he
    cases j with
    | zero =>
      simp at hx; subst hx
      rw [show i * 1 + 0 = i by omega, Array.getD_eq_getD_getElem?]
      have : (((cutS s c).map B).map Value.string).toArray[i]? = some (.string (B u)) := by simp [hu]
      rw [this]
      exact .lit rfl
    | succ j => simp at hx
end Go.Fw
namespace Go.Plain
open Go.Lib
abbrev Bytes := List UInt8
def isDig (b : UInt8) : Prop := 48 ≤ b.toNat ∧ b.toNat ≤ 57
instance (b : UInt8) : Decidable (isDig b) := inferInstanceAs (Decidable (_ ∧ _))
def digV (acc : Nat) : Bytes → Nat
  | [] => acc
  | b :: r => digV (10 * acc + (b.toNat - 48)) r
theorem digV_app (acc : Nat) (a b : Bytes) : digV acc (a ++ b) = digV (digV acc a) b := by
  induction a generalizing acc with
  | nil => rfl
  | cons x a ih => exact ih _
theorem digV_mono {acc : Nat} {l : Bytes} : acc ≤ digV acc l := by
  induction l generalizing acc with
  | nil => exact Nat.le_refl _
  | cons x l ih => exact Nat.le_trans (by omega) (ih (acc := 10 * acc + (x.toNat - 48)))
theorem digV_lt : ∀ (l : Bytes) (acc : Nat), (∀ b ∈ l, isDig b) → digV acc l < (acc + 1) * 10 ^ l.length
  | [], acc, _ => by
    show acc < (acc + 1) * 1
    omega
  | b :: l, acc, h => by
    have h1 := h b (List.mem_cons_self ..)
    have := digV_lt l (10 * acc + (b.toNat - 48)) fun x hx => h x (List.mem_cons_of_mem _ hx)
    have h0 : 10 * acc + (b.toNat - 48) + 1 ≤ (acc + 1) * 10 := by unfold isDig at h1; omega
    have h2 : (10 * acc + (b.toNat - 48) + 1) * 10 ^ l.length ≤ (acc + 1) * 10 * 10 ^ l.length := Nat.mul_le_mul_right _ h0
    rw [List.length_cons, Nat.pow_succ]
    have e : (acc + 1) * (10 ^ l.length * 10) = (acc + 1) * 10 * 10 ^ l.length := by ac_rfl
    rw [e]
    exact Nat.lt_of_lt_of_le this h2
theorem dig_byte {d : Nat} (h : d < 10) : (UInt8.ofNat (48 + d)).toNat = 48 + d := by
  simp [UInt8.toNat_ofNat]; omega
theorem dig_back {b : UInt8} (h : isDig b) : UInt8.ofNat (48 + (b.toNat - 48)) = b := by
  unfold isDig at h
  rw [show 48 + (b.toNat - 48) = b.toNat by omega]
  exact UInt8.ofNat_toNat ..
theorem dec_dig : ∀ (u : Nat), ∀ b ∈ decDigits u, isDig b := by
  intro u
  induction u using Nat.strongRecOn with
  | _ u ih =>
    intro b hb
    rw [decDigits] at hb
    split at hb
    · rw [List.mem_singleton] at hb; subst hb
      unfold isDig; rw [dig_byte (by omega)]; omega
    · rcases List.mem_append.1 hb with hb | hb
      · exact ih _ (by omega) b hb
      · rw [List.mem_singleton] at hb; subst hb
        unfold isDig; rw [dig_byte (by omega)]; omega
theorem dec_val : ∀ (u : Nat), digV 0 (decDigits u) = u := by
  intro u
  induction u using Nat.strongRecOn with
  | _ u ih =>
    rw [decDigits]
    split
    · rename_i h
      show 10 * 0 + ((UInt8.ofNat (48 + u)).toNat - 48) = u
      rw [dig_byte h]; omega
    · rename_i h
      rw [digV_app, ih _ (by omega)]
      show 10 * (u / 10) + ((UInt8.ofNat (48 + u % 10)).toNat - 48) = u
      rw [dig_byte (by omega)]; omega
theorem dec_ne (u : Nat) : decDigits u ≠ [] := by
  rw [decDigits]; split <;> simp
theorem dec_head : ∀ {u : Nat}, 0 < u → ∃ b r, decDigits u = b :: r ∧ b.toNat ≠ 48 := by
  intro u
  induction u using Nat.strongRecOn with
  | _ u ih =>
    intro h0
    rw [decDigits]
    split
    · rename_i h
      exact ⟨_, _, rfl, by rw [dig_byte h]; omega⟩
    · rename_i h
      obtain ⟨b, r, e, hb⟩ := ih (u / 10) (by omega) (by omega)
      exact ⟨b, r ++ [_], by rw [e]; rfl, hb⟩
theorem dec_of : ∀ (l : Bytes) (b : UInt8) (r : Bytes), l = b :: r → (∀ x ∈ l, isDig x) → (b.toNat ≠ 48 ∨ r = []) → decDigits (digV 0 l) = l := by
  intro l
  induction h : l.length using Nat.strongRecOn generalizing l with
  | _ n ih =>
    intro b r e hd hb
    subst e
    rcases List.eq_nil_or_concat r with rfl | ⟨m, x, hr⟩
    · have hb' := hd b (List.mem_cons_self ..)
      have e : digV 0 [b] = b.toNat - 48 := by show 10 * 0 + (b.toNat - 48) = _; omega
      rw [e, decDigits, dif_pos (by unfold isDig at hb'; omega), dig_back hb']
    · rw [List.concat_eq_append] at hr
      subst hr
      have hx : isDig x := hd x (by simp)
      have hm : ∀ y ∈ b :: m, isDig y := fun y hy => hd y (by
        rcases List.mem_cons.1 hy with rfl | hy
        · simp
        · simp [hy])
      have hb1 : b.toNat ≠ 48 := by
        rcases hb with hb | hb
        · exact hb
        · simp at hb
      have i1 := ih (b :: m).length (by simp at h ⊢; omega) (b :: m) rfl b m rfl hm (.inl hb1)
      have hv : digV 0 (b :: (m ++ [x])) = 10 * digV 0 (b :: m) + (x.toNat - 48) := by
        rw [show b :: (m ++ [x]) = (b :: m) ++ [x] from rfl, digV_app]; rfl
      have hpos : 0 < digV 0 (b :: m) := by
        have h1 := hm b (List.mem_cons_self ..)
        have : 10 * 0 + (b.toNat - 48) ≤ digV 0 (b :: m) := digV_mono (acc := 10 * 0 + (b.toNat - 48)) (l := m)
        unfold isDig at h1; omega
      unfold isDig at hx
      show decDigits (digV 0 (b :: (m ++ [x]))) = _
      rw [hv, decDigits, dif_neg (by omega), show (10 * digV 0 (b :: m) + (x.toNat - 48)) / 10 = digV 0 (b :: m) by omega, show (10 * digV 0 (b :: m) + (x.toNat - 48)) % 10 = x.toNat - 48 by omega, i1, dig_back hx]
      rfl
def atN (s : Bytes) : Nat := if (s.getD 0 0).toNat = 45 then 1 else 0
def badN (d : Nat) (s : Bytes) : Prop := s.length = atN s ∨ d < s.length - atN s ∨ ((s.getD (atN s) 0).toNat = 48 ∧ 1 < s.length)
instance (d : Nat) (s : Bytes) : Decidable (badN d s) := inferInstanceAs (Decidable (_ ∨ _ ∨ _))
def numN (d : Nat) (s : Bytes) : Option Int :=
  if badN d s then none else if ∀ b ∈ s.drop (atN s), isDig b then some (if atN s = 1 then -(digV 0 (s.drop (atN s)) : Int) else (digV 0 (s.drop (atN s)) : Int)) else none
theorem atN_le (s : Bytes) : atN s ≤ s.length := by
  unfold atN
  cases s with
  | nil => simp
  | cons b s => simp only [List.length_cons]; split <;> omega
theorem cut_succ {s : Bytes} {a i : Nat} (h1 : a ≤ i) (h2 : i < s.length) : (s.take (i + 1)).drop a = (s.take i).drop a ++ [s.getD i 0] := by
  have e : s.take (i + 1) = s.take i ++ [s.getD i 0] := by
    rw [List.take_succ_eq_append_getElem h2]
    simp [List.getD_eq_getElem?_getD, h2]
  rw [e, List.drop_append_of_le_length (by simp; omega)]
theorem digV_cut {s : Bytes} {a i : Nat} (h1 : a ≤ i) (h2 : i < s.length) (h3 : isDig (s.getD i 0)) : ((digV 0 ((s.take (i + 1)).drop a) : Nat) : Int) = 10 * ((digV 0 ((s.take i).drop a) : Nat) : Int) + (((s.getD i 0).toNat : Nat) - 48 : Int) := by
  rw [cut_succ h1 h2, digV_app]
  unfold isDig at h3
  show ((10 * digV 0 _ + ((s.getD i 0).toNat - 48) : Nat) : Int) = _
  omega
theorem digV_small {l : Bytes} (h : ∀ b ∈ l, isDig b) (hl : l.length ≤ 18) : (digV 0 l : Int) < 1000000000000000000 := by
  have h1 := digV_lt l 0 h
  have h2 : (0 + 1) * 10 ^ l.length ≤ 10 ^ 18 := by
    rw [Nat.zero_add, Nat.one_mul]
    exact Nat.pow_le_pow_right (by decide) hl
  have e : (10 : Nat) ^ 18 = 1000000000000000000 := by decide
  omega
theorem digV_small7 {l : Bytes} (h : ∀ b ∈ l, isDig b) (hl : l.length ≤ 17) : (digV 0 l : Int) < 100000000000000000 := by
  have h1 := digV_lt l 0 h
  have h2 : (0 + 1) * 10 ^ l.length ≤ 10 ^ 17 := by
    rw [Nat.zero_add, Nat.one_mul]
    exact Nat.pow_le_pow_right (by decide) hl
  have e : (10 : Nat) ^ 17 = 100000000000000000 := by decide
  omega
def cutP (s : Bytes) (c : Nat) : Nat → List Bytes × Nat
  | 0 => ([], 0)
  | i + 1 => if (s.getD i 0).toNat = c then ((cutP s c i).1 ++ [(s.take i).drop (cutP s c i).2], i + 1) else cutP s c i
def cutR (s : Bytes) (c : Nat) : List Bytes := (cutP s c s.length).1 ++ [s.drop (cutP s c s.length).2]
theorem cutP_le (s : Bytes) (c : Nat) : ∀ i, (cutP s c i).2 ≤ i ∧ (cutP s c i).1.length ≤ i
  | 0 => ⟨Nat.le_refl _, Nat.le_refl _⟩
  | i + 1 => by
    obtain ⟨h1, h2⟩ := cutP_le s c i
    unfold cutP
    split
    · exact ⟨Nat.le_refl _, by simp; omega⟩
    · exact ⟨by omega, by omega⟩
end Go.Plain
namespace Go.Plain
open Go.Lib
def idxI (l : List Bytes) (x : Bytes) : Int := if x ∈ l then (l.idxOf x : Int) else -1
theorem idxI_no {l : List Bytes} {x : Bytes} (h : x ∉ l) : idxI l x = -1 := by unfold idxI; rw [if_neg h]
theorem idxI_at {l : List Bytes} {x : Bytes} {i : Nat} (h : i < l.length) (e : l[i] = x) (hno : x ∉ l.take i) : idxI l x = i := by
  have hm : x ∈ l := by rw [← e]; exact List.getElem_mem h
  unfold idxI
  rw [if_pos hm]
  have : l.idxOf x = i := by
    have hs : l = l.take i ++ x :: l.drop (i + 1) := by
      rw [← e, List.getElem_cons_drop h, List.take_append_drop]
    rw [hs, List.idxOf_append, if_neg hno, List.idxOf_cons_self]
    simp; omega
  rw [this]
end Go.Plain
namespace Go.Plain
open Go.Lib
theorem pu_dig : ∀ (l : Bytes) (acc : Nat), (∀ b ∈ l, isDig b) → digV acc l < 1000000000000000000 → parseUint10 acc l = .ok (digV acc l)
  | [], _, _, _ => rfl
  | c :: r, acc, h, hl => by
    have hc := h c (List.mem_cons_self ..)
    have h1 : 10 * acc + (c.toNat - 48) ≤ digV (10 * acc + (c.toNat - 48)) r := digV_mono
    have h2 : digV (10 * acc + (c.toNat - 48)) r < 1000000000000000000 := hl
    have ih := pu_dig r (10 * acc + (c.toNat - 48)) (fun b hb => h b (List.mem_cons_of_mem _ hb)) h2
    unfold isDig at hc
    show (if 48 ≤ c.toNat ∧ c.toNat ≤ 57 then if 1844674407370955162 ≤ acc then _ else if 18446744073709551616 ≤ acc * 10 + (c.toNat - 48) then _ else parseUint10 (acc * 10 + (c.toNat - 48)) r else _) = _
    rw [if_pos hc, if_neg (by omega), if_neg (by omega), Nat.mul_comm acc 10, ih]
    rfl
theorem pm_dig {l : Bytes} (h0 : l ≠ []) (h : ∀ b ∈ l, isDig b) (hl : l.length ≤ 18) : parseMag l = .ok (digV 0 l) := by
  unfold parseMag
  rw [if_neg h0]
  exact pu_dig l 0 h (by have := digV_small h hl; omega)
theorem b45 {c : UInt8} (h : c.toNat = 45) : c = 45 := UInt8.toNat_inj.1 h
theorem trim_neg (r : Bytes) : trimPrefix (45 :: r) [45] = r := by
  simp [trimPrefix, hasPrefix]
theorem trim_pos {c : UInt8} (h : c.toNat ≠ 45) (r : Bytes) : trimPrefix (c :: r) [45] = c :: r := by
  have : ¬ (45 : UInt8) = c := fun e => h (by rw [← e]; rfl)
  simp [trimPrefix, hasPrefix, List.isPrefixOf, this]
theorem numN_some {d : Nat} {s : Bytes} {n : Int} (hd : d ≤ 18) (h : numN d s = some n) : atoiAll s = .ok n ∧ itoa n = s ∧ (trimPrefix s [45]).length ≤ d ∧ -9223372036854775808 ≤ n ∧ n ≤ 9223372036854775807 := by
  unfold numN at h
  split at h
  · cases h
  rename_i hb
  split at h
  · rename_i hdg
    cases s with
    | nil => exact absurd (.inl rfl) hb
    | cons c r =>
      by_cases h45 : c.toNat = 45
      · have hc := b45 h45
        subst hc
        have ea : atN (45 :: r) = 1 := rfl
        unfold badN at hb
        rw [ea] at h hb hdg
        simp only [List.length_cons, List.drop_succ_cons, List.drop_zero] at hb hdg h
        simp only [if_true] at h
        have hn : n = -(digV 0 r : Int) := by simpa using h.symm
        cases r with
        | nil => exact absurd (.inl rfl) hb
        | cons b r' =>
          have hb48 : b.toNat ≠ 48 := by
            intro e
            exact hb (.inr (.inr ⟨e, by simp⟩))
          have hlen : (b :: r').length ≤ d := by
            simp only [List.length_cons] at hb ⊢; omega
          have hb1 := hdg b (List.mem_cons_self ..)
          have hpos : 0 < digV 0 (b :: r') := by
            have : 10 * 0 + (b.toNat - 48) ≤ digV 0 (b :: r') := digV_mono (acc := 10 * 0 + (b.toNat - 48)) (l := r')
            unfold isDig at hb1; omega
          have hsm := digV_small hdg (by omega)
          refine ⟨?_, ?_, ?_, ?_⟩
          · rw [atoiAll_minus, pm_dig (by simp) hdg (by omega), hn]
            unfold signed
            dsimp only
            rw [if_neg (by omega)]
          · unfold itoa
            rw [if_pos (by omega), hn]
            have : (-(digV 0 (b :: r') : Int)).natAbs = digV 0 (b :: r') := by omega
            rw [this, dec_of _ b r' rfl hdg (.inl hb48)]
          · rw [trim_neg]; exact hlen
          · omega
      · have ea : atN (c :: r) = 0 := by unfold atN; rw [if_neg (by simpa using h45)]
        unfold badN at hb
        rw [ea] at h hb hdg
        simp only [List.length_cons, List.drop_zero] at hb hdg h
        simp only [Nat.zero_ne_one, if_false] at h
        have hn : n = (digV 0 (c :: r) : Int) := by simpa using h.symm
        have hc1 := hdg c (List.mem_cons_self ..)
        have hc48 : c.toNat ≠ 48 ∨ r = [] := by
          by_cases e : c.toNat = 48
          · right
            cases r with
            | nil => rfl
            | cons b r' => exact absurd (.inr (.inr ⟨by simpa using e, by simp⟩)) hb
          · exact .inl e
        have hlen : (c :: r).length ≤ d := by
          simp only [List.length_cons] at hb ⊢; omega
        have hsm := digV_small hdg (by omega)
        refine ⟨?_, ?_, ?_, ?_⟩
        · rw [atoiAll_plain c r (by unfold isDig at hc1; omega) h45, pm_dig (by simp) hdg (by omega), hn]
          unfold signless
          dsimp only
          rw [if_neg (by omega)]
        · unfold itoa
          rw [if_neg (by omega), hn]
          have : ((digV 0 (c :: r) : Nat) : Int).toNat = digV 0 (c :: r) := by omega
          rw [this, dec_of _ c r rfl hdg hc48]
        · rw [trim_pos h45]; exact hlen
        · omega
  · cases h
theorem numN_back {d : Nat} {n : Int} (h2 : (trimPrefix (itoa n) [45]).length ≤ d) : numN d (itoa n) = some n := by
  unfold itoa at *
  split at h2
  · rename_i h
    rw [trim_neg] at h2
    obtain ⟨b, r, e, hb⟩ := dec_head (u := n.natAbs) (by omega)
    have hdg := dec_dig n.natAbs
    have hv := dec_val n.natAbs
    rw [if_pos h]
    have ea : atN (45 :: decDigits n.natAbs) = 1 := rfl
    have hbad : ¬ badN d (45 :: decDigits n.natAbs) := by
      unfold badN
      rw [ea]
      rintro (h1 | h1 | ⟨h1, _⟩)
      · rw [e] at h1; simp at h1
      · simp only [List.length_cons] at h1; omega
      · rw [e] at h1; exact hb (by simpa using h1)
    unfold numN
    rw [if_neg hbad, ea]
    simp only [List.drop_succ_cons, List.drop_zero, if_true]
    rw [if_pos hdg, hv]
    congr 1; omega
  · rename_i h
    have hdg := dec_dig n.toNat
    have hv := dec_val n.toNat
    rw [if_neg h]
    have hne := dec_ne n.toNat
    obtain ⟨b, r, e⟩ : ∃ b r, decDigits n.toNat = b :: r := by
      cases hh : decDigits n.toNat with
      | nil => exact absurd hh hne
      | cons b r => exact ⟨b, r, rfl⟩
    have hb1 := hdg b (by rw [e]; exact List.mem_cons_self ..)
    have h45 : b.toNat ≠ 45 := by unfold isDig at hb1; omega
    rw [e, trim_pos h45, ← e] at h2
    have ea : atN (decDigits n.toNat) = 0 := by rw [e]; unfold atN; rw [if_neg (by simpa using h45)]
    have hbad : ¬ badN d (decDigits n.toNat) := by
      unfold badN
      rw [ea]
      rintro (h1 | h1 | ⟨h1, h3⟩)
      · rw [e] at h1; simp at h1
      · omega
      · rw [e] at h1 h3
        by_cases h0 : 0 < n.toNat
        · obtain ⟨b', r', e', hb'⟩ := dec_head h0
          rw [e] at e'
          injection e' with e1 e2
          subst e1
          exact hb' (by simpa using h1)
        · have : n.toNat = 0 := by omega
          rw [this] at e
          have : decDigits 0 = [48] := by rw [decDigits]; rfl
          rw [this] at e
          injection e with e1 e2
          rw [← e2] at h3
          simp at h3
    unfold numN
    rw [if_neg hbad, ea]
    simp only [Nat.zero_ne_one, List.drop_zero, if_false]
    rw [if_pos hdg, hv]
    congr 1; omega
end Go.Plain
namespace Go.Plain
open Go.Lib
def inJ (n : Int) : Prop := -9223372036854775808 ≤ n ∧ n ≤ 9223372036854775807
theorem takeD_snoc {α : Type} {l : List α} {i : Nat} (h : i < l.length) (d : α) : l.take (i + 1) = l.take i ++ [l.getD i d] := by
  rw [List.take_add_one, List.getElem?_eq_getElem h]
  simp [List.getD_eq_getElem?_getD, h]
end Go.Plain
namespace Go.Plain
open Go.Lib
def spl (c : Nat) : Bytes → List Bytes
  | [] => [[]]
  | b :: r => if b.toNat = c then [] :: spl c r else match spl c r with
    | w :: ws => (b :: w) :: ws
    | [] => [[b]]
theorem spl_ne (c : Nat) : ∀ s, spl c s ≠ []
  | [] => by simp [spl]
  | b :: r => by
    unfold spl
    split
    · simp
    · split <;> simp
theorem spl_index (c : UInt8) : ∀ s : Bytes, (indexByte s c = -1 ∧ spl c.toNat s = [s]) ∨ ∃ i : Nat, i < s.length ∧ indexByte s c = i ∧ spl c.toNat s = s.take i :: spl c.toNat (s.drop (i + 1))
  | [] => .inl ⟨rfl, rfl⟩
  | b :: r => by
    by_cases hb : b = c
    · subst hb
      refine .inr ⟨0, by simp, ?_, ?_⟩
      · unfold indexByte; rw [if_pos (by simp)]; rfl
      · show (if b.toNat = b.toNat then _ else _) = _
        rw [if_pos rfl]; rfl
    · have hb' : ¬ b.toNat = c.toNat := fun e => hb (UInt8.toNat_inj.1 e)
      rcases spl_index c r with ⟨h1, h2⟩ | ⟨i, h1, h2, h3⟩
      · refine .inl ⟨?_, ?_⟩
        · unfold indexByte; rw [if_neg (by simpa using hb), if_pos (by simpa using h1)]
        · unfold spl; rw [if_neg hb', h2]
      · refine .inr ⟨i + 1, by simpa using h1, ?_, ?_⟩
        · unfold indexByte; rw [if_neg (by simpa using hb), h2, if_neg (by simp <;> omega)]; first | omega | rfl
        · show (if b.toNat = c.toNat then _ else match spl c.toNat r with | w :: ws => (b :: w) :: ws | [] => [[b]]) = _
          rw [if_neg hb', h3]; rfl
theorem spl_splitK (c : UInt8) : ∀ (n : Nat) (s : Bytes), s.length ≤ n → splitK [c] 0 (count s [c]) s = spl c.toNat s ∧ (spl c.toNat s).length = count s [c] + 1
  | n, s, hn => by
    rcases spl_index c s with ⟨h1, h2⟩ | ⟨i, h1, h2, h3⟩
    · rw [← index_one] at h1
      rw [count_miss h1, h2]
      exact ⟨rfl, rfl⟩
    · rw [← index_one] at h2
      rw [count_hit (by simp) h2, h3, Nat.add_comm 1]
      have hl : (s.drop (i + 1)).length < s.length := by simp; omega
      cases n with
      | zero => omega
      | succ n =>
        have ih := spl_splitK c n (s.drop (i + 1)) (by omega)
        simp only [List.length_cons, List.length_nil, Nat.zero_add]
        refine ⟨?_, by rw [ih.2]⟩
        show (if (index s [c] == -1) = true then _ else _) = _
        rw [if_neg (by rw [h2]; simp <;> omega), h2]
        simp only [List.length_cons, List.length_nil, Nat.zero_add, Int.toNat_natCast, Nat.add_zero]
        rw [ih.1]
theorem cutS_spl (s : Bytes) (c : UInt8) : Go.Fw.cutS s c = spl c.toNat s ∧ (Go.Fw.cutS s c).length = countB (Go.Fw.B s) (Go.Fw.B [c]) + 1 := by
  have e : countB (Go.Fw.B s) (Go.Fw.B [c]) = count s [c] := by
    show count (Go.Fw.B s).data.toList (Go.Fw.B [c]).data.toList = _
    rw [Go.Fw.B_data, Go.Fw.B_data]
  have h := spl_splitK c s.length s (Nat.le_refl _)
  unfold Go.Fw.cutS
  rw [e, h.1]
  exact ⟨rfl, h.2⟩
theorem spl_snoc (c : Nat) (b : UInt8) : ∀ (t : Bytes) (ps : List Bytes) (w : Bytes), spl c t = ps ++ [w] → spl c (t ++ [b]) = if b.toNat = c then ps ++ [w] ++ [[]] else ps ++ [w ++ [b]]
  | [], ps, w, h => by
    have h' : [[]] = ps ++ [w] := h
    have : ps = [] ∧ w = [] := by
      cases ps with
      | nil => exact ⟨rfl, by simpa using h'.symm⟩
      | cons p ps => simp at h'
    obtain ⟨rfl, rfl⟩ := this
    show (if b.toNat = c then [] :: [[]] else _) = _
    split <;> rfl
  | x :: t, ps, w, h => by
    by_cases hx : x.toNat = c
    · have h1 : [] :: spl c t = ps ++ [w] := by rw [← h]; exact (if_pos hx).symm
      cases ps with
      | nil =>
        have := spl_ne c t
        simp at h1; exact absurd h1.2 this
      | cons p ps =>
        have h2 : p = [] ∧ spl c t = ps ++ [w] := by simpa [eq_comm] using h1
        have ih := spl_snoc c b t ps w h2.2
        show (if x.toNat = c then [] :: spl c (t ++ [b]) else _) = _
        rw [if_pos hx, ih, h2.1]
        split <;> rfl
    · have hne := spl_ne c t
      cases hs : spl c t with
      | nil => exact absurd hs hne
      | cons w0 ws =>
        have h1 : (x :: w0) :: ws = ps ++ [w] := by
          rw [← h]
          show _ = (if x.toNat = c then _ else match spl c t with | w :: ws => (x :: w) :: ws | [] => [[x]])
          rw [if_neg hx, hs]
        have go : ∀ u us, spl c (t ++ [b]) = u :: us → spl c (x :: t ++ [b]) = (x :: u) :: us := by
          intro u us e
          show (if x.toNat = c then _ else match spl c (t ++ [b]) with | w :: ws => (x :: w) :: ws | [] => [[x]]) = _
          rw [if_neg hx, e]
        cases ps with
        | nil =>
          have h2 : x :: w0 = w ∧ ws = [] := by simpa using h1
          obtain ⟨rfl, rfl⟩ := h2
          have ih := spl_snoc c b t [] w0 (by rw [hs]; rfl)
          split
          · rename_i hb; rw [if_pos hb] at ih; exact go _ _ ih
          · rename_i hb; rw [if_neg hb] at ih; exact go _ _ ih
        | cons p ps =>
          have h2 : x :: w0 = p ∧ ws = ps ++ [w] := by simpa using h1
          obtain ⟨rfl, rfl⟩ := h2
          have ih := spl_snoc c b t (w0 :: ps) w (by rw [hs]; rfl)
          split
          · rename_i hb; rw [if_pos hb] at ih; exact go _ _ ih
          · rename_i hb; rw [if_neg hb] at ih; exact go _ _ ih
theorem cutP_spl (s : Bytes) (c : Nat) : ∀ i, i ≤ s.length → spl c (s.take i) = (cutP s c i).1 ++ [(s.take i).drop (cutP s c i).2]
  | 0, _ => by simp [spl, cutP]
  | i + 1, h => by
    have ih := cutP_spl s c i (by omega)
    have h2 := (cutP_le s c i).1
    have e : s.take (i + 1) = s.take i ++ [s.getD i 0] := by
      have := cut_succ (s := s) (a := 0) (i := i) (Nat.zero_le _) (by omega)
      simpa using this
    have hs := spl_snoc c (s.getD i 0) (s.take i) _ _ ih
    rw [e, hs]
    show _ = (if (s.getD i 0).toNat = c then ((cutP s c i).1 ++ [(s.take i).drop (cutP s c i).2], i + 1) else cutP s c i).1 ++ [(s.take i ++ [s.getD i 0]).drop (if (s.getD i 0).toNat = c then ((cutP s c i).1 ++ [(s.take i).drop (cutP s c i).2], i + 1) else cutP s c i).2]
    by_cases hc : (s.getD i 0).toNat = c
    · simp only [if_pos hc]
      have : (s.take i ++ [s.getD i 0]).drop (i + 1) = [] := by
        rw [List.drop_eq_nil_of_le]; simp; omega
      rw [this]
    · simp only [if_neg hc]
      rw [← e, cut_succ h2 (by omega)]
theorem cutR_spl (s : Bytes) (c : Nat) : cutR s c = spl c s := by
  have := cutP_spl s c s.length (Nat.le_refl _)
  rw [List.take_length] at this
  exact this.symm
theorem spl_len (c : Nat) : ∀ s : Bytes, (spl c s).length ≤ s.length + 1 ∧ ∀ w ∈ spl c s, w.length ≤ s.length
  | [] => by simp [spl]
  | b :: r => by
    have ih := spl_len c r
    unfold spl
    split
    · refine ⟨by simp; omega, fun w hw => ?_⟩
      rcases List.mem_cons.1 hw with rfl | hw
      · simp
      · have := ih.2 w hw; simp; omega
    · cases hs : spl c r with
      | nil => exact absurd hs (spl_ne c r)
      | cons w0 ws =>
        rw [hs] at ih
        refine ⟨by have := ih.1; simp at this ⊢; omega, fun w hw => ?_⟩
        rcases List.mem_cons.1 hw with rfl | hw
        · have := ih.2 w0 (List.mem_cons_self ..); simp; omega
        · have := ih.2 w (List.mem_cons_of_mem _ hw); simp; omega
end Go.Plain
namespace Go.Fw
open Go.IntWalk Go.RowKit
variable {C : Ctx} {fid : Nat} {o : Oper} {E : Env} {H : Hp} {t : Trace} {k : Env → Hp → Trace → Prop} {T : TypeId} {x y : Operand}
theorem strs_uniA (l : List (List UInt8)) : (SC.view (strs l)).uni 1 := by
  intro e he
  obtain ⟨w, _, rfl⟩ := List.mem_map.1 he
  rfl
theorem rVSlH {i : TI} {e : TypeId} {ie : TI} {l : List (List UInt8)} {zz : Int} {n : Nat} {k' : IntKind} [nz : NatOf zz n] (ho : o.op = .slice T x none (some y) none) (hx : C.ev E.get x = some (.val (false, [.st (.view (strs l))]))) (hy : C.ev E.get y = some (.val (false, [.st (.lit (.int k' zz))])))
    (hi : C.ti T = some i) (hc : i.cls = .slice e) (he : C.ti e = some ie) (hs : ie.size = 1) (hb : n ≤ l.length)
    (h2 : putK o.dst (one (.st (.view (strs (l.take n))))) E fun E' => k E' H (([], []) :: t)) : RunO C fid o E H t k := by
  refine rG (r := one (.st (.view (strs (l.take n))))) (u := []) (R := []) (fun K hK => ?_) h2
  have e0 : zz.toNat = n := by rw [nz.eq]; simp
  have u := strs_uniA l
  unfold opA
  rw [ho]
  simp only [hx, Option.map]
  unfold sliceA
  simp only [hi, hc, he, stat1L, stat1, hy, SC.isView, bnd, SC.len, SC.sub, List.drop_zero]
  rw [hs]
  refine ⟨by rw [nz.eq]; omega, ⟨by omega, by rw [e0]; simpa using hb⟩, u, ?_⟩
  rw [e0, ← List.map_take]
  exact hK
theorem rVSlL {i : TI} {e : TypeId} {ie : TI} {l : List (List UInt8)} {zz : Int} {n : Nat} {k' : IntKind} [nz : NatOf zz n] (ho : o.op = .slice T x (some y) none none) (hx : C.ev E.get x = some (.val (false, [.st (.view (strs l))]))) (hy : C.ev E.get y = some (.val (false, [.st (.lit (.int k' zz))])))
    (hi : C.ti T = some i) (hc : i.cls = .slice e) (he : C.ti e = some ie) (hs : ie.size = 1) (hb : n ≤ l.length)
    (h2 : putK o.dst (one (.st (.view (strs (l.drop n))))) E fun E' => k E' H (([], []) :: t)) : RunO C fid o E H t k := by
  refine rG (r := one (.st (.view (strs (l.drop n))))) (u := []) (R := []) (fun K hK => ?_) h2
  have e0 : zz.toNat = n := by rw [nz.eq]; simp
  have u := strs_uniA l
  unfold opA
  rw [ho]
  simp only [hx, Option.map]
  unfold sliceA
  simp only [hi, hc, he, stat1L, stat1, hy, SC.isView, bnd, SC.len, SC.sub, List.take_length]
  rw [hs]
  refine ⟨by rw [nz.eq]; omega, ⟨by rw [e0]; simpa using hb, by omega⟩, u, ?_⟩
  rw [e0, ← List.map_drop]
  exact hK
theorem rVOlH {i : TI} {e : TypeId} {ie : TI} {l : List (List UInt8)} {id : Nat} {zz : Int} {n : Nat} {k' : IntKind} [nz : NatOf zz n] (ho : o.op = .slice T x none (some y) none) (hx : C.ev E.get x = some (.val (false, [.own id]))) (hy : C.ev E.get y = some (.val (false, [.st (.lit (.int k' zz))])))
    (hi : C.ti T = some i) (hc : i.cls = .slice e) (he : C.ti e = some ie) (hs : ie.size = 1) (hH : H.get id = some (.row false 1 (.view (strs l)))) (hb : n ≤ l.length)
    (h2 : putK o.dst (one (.st (.view (strs (l.take n))))) E fun E' => k E' H (([id], []) :: t)) : RunO C fid o E H t k := by
  refine rG (r := one (.st (.view (strs (l.take n))))) (u := []) (R := [id]) (fun K hK => ?_) h2
  have e0 : zz.toNat = n := by rw [nz.eq]; simp
  have u := strs_uniA l
  unfold opA
  rw [ho]
  simp only [hx, Option.map]
  unfold sliceA
  simp only [hi, hc, he, stat1L, stat1, hH, hy, SC.isView, bnd, SC.len, SC.sub, List.drop_zero, List.append_nil]
  rw [hs]
  refine ⟨by rw [nz.eq]; omega, ⟨by omega, by rw [e0]; simpa using hb⟩, u, ?_⟩
  rw [e0, ← List.map_take]
  exact hK
theorem rVOlL {i : TI} {e : TypeId} {ie : TI} {l : List (List UInt8)} {id : Nat} {zz : Int} {n : Nat} {k' : IntKind} [nz : NatOf zz n] (ho : o.op = .slice T x (some y) none none) (hx : C.ev E.get x = some (.val (false, [.own id]))) (hy : C.ev E.get y = some (.val (false, [.st (.lit (.int k' zz))])))
    (hi : C.ti T = some i) (hc : i.cls = .slice e) (he : C.ti e = some ie) (hs : ie.size = 1) (hH : H.get id = some (.row false 1 (.view (strs l)))) (hb : n ≤ l.length)
    (h2 : putK o.dst (one (.st (.view (strs (l.drop n))))) E fun E' => k E' H (([id], []) :: t)) : RunO C fid o E H t k := by
  refine rG (r := one (.st (.view (strs (l.drop n))))) (u := []) (R := [id]) (fun K hK => ?_) h2
  have e0 : zz.toNat = n := by rw [nz.eq]; simp
  have u := strs_uniA l
  unfold opA
  rw [ho]
  simp only [hx, Option.map]
  unfold sliceA
  simp only [hi, hc, he, stat1L, stat1, hH, hy, SC.isView, bnd, SC.len, SC.sub, List.take_length, List.append_nil]
  rw [hs]
  refine ⟨by rw [nz.eq]; omega, ⟨by rw [e0]; simpa using hb, by omega⟩, u, ?_⟩
  rw [e0, ← List.map_drop]
  exact hK
theorem rLdv {i : TI} {id n : Nat} {m : Bool} {l : List (List SC)} {v : Value} (ho : o.op = .load T x) (hx : C.ev E.get x = some (.val (false, [.rptr id 1 n 0]))) (hi : C.ti T = some i) (hg : clsAg i.cls = false) (hs : i.size = 1)
    (hH : H.get id = some (.row m 1 (.view l))) (hb : l[n]? = some [.lit v])
    (h2 : putK o.dst (lit v) E fun E' => k E' H (([id], []) :: t)) : RunO C fid o E H t k := by
  refine rG (r := lit v) (u := []) (R := [id]) (fun K hK => ?_) h2
  unfold opA
  rw [ho]
  simp only [hx]
  unfold loadA
  simp only [hi, hH, hs, hg]
  refine ⟨[.lit v], ?_, hK⟩
  simp [SC.elem, hb]
theorem nilb_sub {E : Env} {Hh : Hp} {nx : Nat} (id k z : Nat) (c : SC) {T : TypeId} {cs : List DC} (hz : 0 < z) (hv : c.isView = true) (h0 : c.len = 0) (hB : Hh.get id = some (.box T cs)) (hk : cs[k]? = some .nil) :
    Sub ⟨E, Hh, nx⟩ ⟨E, (id, some (.box T (cs.set k (.own (2 * nx))))) :: ((2 * nx), some (.row true z c)) :: Hh, nx + 1⟩ := by
  rintro F nt a w ⟨N, ⟨q1, q2, q0, β, q3, q4⟩, q5⟩
  have hf : ¬ N (2 * nx) := fun h => by have := q5 _ h; rw [tag_even] at this; exact Nat.lt_irrefl _ this
  have hu : ∀ i e, c.elem i = some e → e.length = z := fun i e he => by have := SC.elem_lt he; omega
  have t2 := Tr.new q4 (Below.refl _ w) hf none (by simp) (.row true z c)
  have hN := HeapRel.new q4 (Below.refl _ w) hf none (by simp) (.row true z c) ⟨⟨hz, hv, hu⟩, .inl ⟨by simp [setB], h0⟩⟩
  rw [← Hp.get_cons] at t2 hN
  have hid : N id := (q4.rel id _ hB).1
  have hne : id ≠ (2 * nx) := fun e => hf (e ▸ hid)
  have hB1 : Hp.get (((2 * nx), some (.row true z c)) :: Hh) id = some (.box T cs) := by rw [Hp.get_cons, updH_ne _ _ _ hne]; exact hB
  generalize hH1 : Hp.get (((2 * nx), some (.row true z c)) :: Hh) = H1 at *
  have hnx : H1 (2 * nx) = some (.row true z c) := by rw [← hH1, Hp.get_cons, updH_same]
  have t3 : Tr F (setB β (2 * nx) none) (Fw.setN N (2 * nx)) H1 w (setB β (2 * nx) none) (Fw.setN N (2 * nx)) (updH H1 id (some (.box T (cs.set k (.own (2 * nx)))))) w := {
    below := Keep.refl _ _
    others := fun _ _ h => h
    mem := fun b o v _ hs e => ⟨fun id' blk e' hb => by
      by_cases h : id' = id
      · subst h
        exact (hs id' _ hB1 hb).elim
      · rw [updH_ne _ _ _ h] at e'
        exact hs id' blk e' hb, e⟩
    used := fun _ h => h
    beta := fun _ _ => rfl
    keep := fun id' blk' _ e => by
      by_cases h : id' = id
      · subst h
        rw [updH_same] at e; cases e
        exact ⟨_, hB1, trivial⟩
      · rw [updH_ne _ _ _ h] at e
        exact ⟨blk', e, blk'.like_refl⟩
    size := fun _ _ _ _ arr _ _ _ _ _ _ h => ⟨arr, h, rfl⟩ }
  have h3 : HeapRel F (setB β (2 * nx) none) (Fw.setN N (2 * nx)) (updH H1 id (some (.box T (cs.set k (.own (2 * nx)))))) w := by
    refine hN.step t3 (fun i => i = id) (fun i b0 hi e => ?_) (fun i b0 hi e => ?_) (fun i j b x y hi hj bi bj => ?_)
    · rw [updH_ne _ _ _ hi] at e
      exact ⟨e, (hN.rel i b0 e).1, fun _ _ => rfl⟩
    · subst hi
      rw [updH_same] at e; cases e
      obtain ⟨hn, b, arr, T', h1, h2, h3, h4, h5⟩ := hN.rel i _ hB1
      refine ⟨hn, b, arr, T', h1, h2, h3, by simp [h4], fun j x hx => ?_⟩
      by_cases hj : j = k
      · subst hj
        have hlt : j < cs.length := (List.getElem?_eq_some_iff.1 hk).1
        have : x = .own (2 * nx) := by simpa [hlt] using hx.symm
        subst this
        have hnil : arr.getD j undef = .slice none 0 0 := h5 j _ hk
        refine ⟨.inr rfl, by rw [hnil]; rfl, fun blk0 z' n' hb hz' => ?_⟩
        rw [updH_ne _ _ _ (Ne.symm hne), hnx] at hb
        cases hb; cases hz'
        exact .inl ⟨by simp [setB], h0, hnil⟩
      · rw [List.getElem?_set_ne (Ne.symm hj)] at hx
        exact t3.repD hN (h5 j x hx)
    · have live : ∀ {k' : Nat} {b0 : Blk}, updH H1 id (some (.box T (cs.set k (.own (2 * nx))))) k' = some b0 → ∃ b1, H1 k' = some b1 := by
        intro k' b0 h
        by_cases hk' : k' = id
        · subst hk'; exact ⟨_, hB1⟩
        · rw [updH_ne _ _ _ hk'] at h; exact ⟨b0, h⟩
      obtain ⟨b1, h1⟩ := live hi
      obtain ⟨b2, h2⟩ := live hj
      exact hN.inj i j b b1 b2 h1 h2 bi bj
  refine ⟨Fw.setN N (2 * nx), ⟨q1, q2, q0, setB β (2 * nx) none, ?_, ?_⟩, fun id' h => ?_⟩
  · rw [Hp.get_cons, hH1]
    exact t3.env hN (t2.env q4 q3)
  · rw [Hp.get_cons, hH1]
    exact h3
  · rcases h with h | h
    · exact Nat.lt_succ_of_lt (q5 _ h)
    · rw [h, tag_even]; exact Nat.lt_succ_self _
end Go.Fw
namespace Go.Fw
open Go.RowKit (Below)
open Go.Shelf
variable {P : Program} {gl : Glob}
theorem cut_gen {ρ : Ren} (L : Proofs.Lays.n145 P ρ) (hok : fnOk P (ρ.f 145) = true) (hg : (ρ.g 1, [SC.num .i64]) ∈ gl) (s : List UInt8) (c : UInt8) (hl : s.length ≤ 1000000) :
    Sat P gl (ρ.f 145) [SS s, SS [c]] (.tup [SS (Lib.cut s [c]).1, SS (Lib.cut s [c]).2.1, (false, [.lit (.bool (Lib.cut s [c]).2.2)])]) := by
  refine .inl ⟨hok, fun mv w vs _ hG hvs => ?_⟩
  obtain ⟨x, y, rfl, hr, hr'⟩ := repL_two hvs
  rw [rep_lit hr, rep_lit hr']
  obtain ⟨ev, h1, h2⟩ := (hG _ _ hg).1 0 _ rfl
  have hev : ∃ m, ev = .int .i64 m := by
    cases h2 with
    | num h => exact h
    | empty a cap hv => simp [SC.isView] at hv
    | view _ _ _ _ _ hv => simp [SC.isView] at hv
  obtain ⟨m, rfl⟩ := hev
  refine (Proofs.Any.strings_Cut L (B s) (B [c]) m w (by rw [B_size]; omega) h1).mono fun e w' he => ?_
  obtain ⟨rfl, n, rfl⟩ := he
  rw [B_data, B_data]
  refine ⟨_, rfl, (Below.refl w.heap.size w).trans ⟨rfl, rfl, rfl, Nat.le_refl _, fun _ _ => rfl⟩, _, rfl, rfl, fun k x hk => ?_⟩
  match k, hk with
  | 0, hk => simp at hk; subst hk; exact ⟨_, rfl, .lit rfl⟩
  | 1, hk => simp at hk; subst hk; exact ⟨_, rfl, .lit rfl⟩
  | 2, hk => simp at hk; subst hk; exact ⟨_, rfl, .lit rfl⟩
  | k + 3, hk => simp at hk
end Go.Fw
namespace Go.Fw
open Go.RowKit (Below)
variable {P : Program} {gl : Glob}
theorem Sat.call {f : FuncId} {args : List SV} {x : SV} (h : Sat P gl f args (.one x)) {mv : Mem} {w : World} {vs : Array Value} (hm : mv.le (rd w)) (hG : GlobOK gl (rd w)) (ha : RepL mv (rd w) vs args) :
    Calls P f vs w fun e w' => ∃ v, e = .returned v ∧ Below w.heap.size w w' ∧ RepB (mvAfter mv w.heap.size w') nomem v x := by
  rcases h with h | h
  · exact h.2 mv w vs hm hG ha
  · exact h.elim
end Go.Fw
namespace Go.Fw
open Go.RowKit (Below)
theorem aF {C : Ctx} {g : Operand} {ps : Array Tmp} {x y : Code} {E : Env} {H : Hp} {n0 : Nat} {kn : St → Prop} {kx : Nat → St → Prop} {kr : St → Prop} {gf : FuncId} {first : List SV} {caps : List (List SC)}
    (hg : C.ev E.get g = some (.val (false, [.st (.fn gf first caps)]))) (xs : List (List SV)) (Hs : Nat → Hp) (nx : Nat) (Inv : Nat → Prop) (hit : SatIt C.P C.gl gf first caps xs) (hlen : ∀ r ∈ xs, r.length = ps.size)
    (hfl : (flatC x && (flatC y && (codeFree (keysOf E) x && (codeFree (keysOf E) y && tmpsFree (keysOf E) ps.toList)))) = true) (hm : ∀ i, noMapL (Hs i) = true) (h0 : Sub ⟨E, H, n0⟩ ⟨E, Hs 0, nx⟩) (hi : Inv 0)
    (hb : ∀ i r, xs[i]? = some r → Inv i → Awp C x ⟨params ps.toList r E, Hs i, nx⟩ (fun S1 => Awp C y S1 (fun S2 => Inv (i + 1) ∧ Sub S2 ⟨E, Hs (i + 1), nx⟩) (fun _ _ => False) (fun S2 => ∃ Hr nr, noMapL Hr = true ∧ Sub S2 ⟨E, Hr, nr⟩ ∧ kr ⟨E, Hr, nr⟩)) (fun _ _ => False) (fun _ => False))
    (hd : Inv xs.length → kn ⟨E, Hs xs.length, nx⟩) : Awp C (.rangeFunc g ps x y) ⟨E, H, n0⟩ kn kx kr := by
  refine ⟨?_⟩
  unfold awp
  simp only [hg]
  obtain ⟨f1, hfl⟩ := ble_and hfl
  obtain ⟨f2, hfl⟩ := ble_and hfl
  obtain ⟨f3, hfl⟩ := ble_and hfl
  obtain ⟨f4, f5⟩ := ble_and hfl
  exact ⟨xs, Hs, nx, Inv, hit, hlen, ⟨f1, f2, f3, f4, f5⟩, hm, h0, hi, fun i r hr hv => awp_mono (hb i r hr hv).out (fun S1 h => ⟨S1, Sub.refl _, h.out⟩) (fun _ _ h => h) fun _ h => h, hd⟩
end Go.Fw
namespace Go.Fw
theorem slice_idx {C : Ctx} (hC : C.Ok) {T e : TypeId} {i ie : TI} {w : World} {b o n cap : Nat} {k : Int} (hi : C.ti T = some i) (hcl : i.cls = .slice e) (he : C.ti e = some ie) (h0 : 0 ≤ k) (h1 : k < (n : Int)) :
    (Instr.indexAt T (.slice (some ⟨b, o, none⟩) n cap) (.int .i64 k)).run C.P w = .ok (.pointer (some ⟨b, o + k.toNat * ie.size, none⟩)) w := by
  obtain ⟨tf, d, z, hT⟩ := hC.get hi
  obtain ⟨ef, ed, ez, hE⟩ := hC.get he
  have hd := cls_slice (hT.cls.trans hcl)
  have h2 : 0 ≤ k ∧ k < (n : Int) := ⟨h0, h1⟩
  simp [Instr.indexAt, asIntOf, hT.run_und, hd, h2, hE.run_size, addr_add]
end Go.Fw
namespace Go.Fw
open Go.RowKit (Below)
open Go.Shelf Go.Plain
def idxF (c : UInt8) : List UInt8 → Option Nat
  | [] => none
  | b :: r => match Nat.beq b.toNat c.toNat with
    | true => some 0
    | false => match idxF c r with
      | some i => some (i + 1)
      | none => none
theorem idxF_eq (c : UInt8) : ∀ s : List UInt8, (idxF c s = none ∧ Lib.indexByte s c = -1) ∨ ∃ i, idxF c s = some i ∧ Lib.indexByte s c = (i : Int) ∧ i < s.length
  | [] => .inl ⟨rfl, rfl⟩
  | b :: r => by
    by_cases hb : b = c
    · subst hb
      refine .inr ⟨0, by simp [idxF], ?_, by simp⟩
      unfold Lib.indexByte; rw [if_pos (by simp)]; rfl
    · have hb' : Nat.beq b.toNat c.toNat = false := by
        cases h : Nat.beq b.toNat c.toNat
        · rfl
        · exact absurd (UInt8.toNat_inj.1 (Nat.eq_of_beq_eq_true h)) hb
      rcases idxF_eq c r with ⟨h1, h2⟩ | ⟨i, h1, h2, h3⟩
      · refine .inl ⟨by simp [idxF, hb', h1], ?_⟩
        unfold Lib.indexByte; rw [if_neg (by simpa using hb), if_pos (by simpa using h2)]
      · refine .inr ⟨i + 1, by simp [idxF, hb', h1], ?_, by simpa using h3⟩
        unfold Lib.indexByte; rw [if_neg (by simpa using hb), h2, if_neg (by simp <;> omega)]; first | omega | rfl
def splN (c : UInt8) : Nat → List UInt8 → List (List UInt8)
  | 0, s => [s]
  | k + 1, s => match idxF c s with
    | none => [s]
    | some i => s.take i :: splN c k (s.drop (i + 1))
theorem splN_eq (c : UInt8) : ∀ (k : Nat) (s : List UInt8), Lib.splitK [c] 0 k s = splN c k s
  | 0, _ => rfl
  | k + 1, s => by
    have ih := splN_eq c k
    show (if (Lib.index s [c] == -1) = true then _ else _) = _
    rw [Lib.index_one]
    rcases idxF_eq c s with ⟨h1, h2⟩ | ⟨i, h1, h2, h3⟩
    · rw [if_pos (by rw [h2]; rfl)]
      simp [splN, h1]
    · rw [if_neg (by rw [h2]; simp <;> omega), h2]
      simp only [splN, h1, List.length_cons, List.length_nil, Nat.zero_add, Int.toNat_natCast, Nat.add_zero]
      rw [ih]
def cutF (c : UInt8) (s : List UInt8) : List UInt8 × List UInt8 × Bool := match idxF c s with
  | none => (s, [], false)
  | some i => (s.take i, s.drop (i + 1), true)
theorem cutF_eq (c : UInt8) (s : List UInt8) : Lib.cut s [c] = cutF c s := by
  unfold Lib.cut cutF
  rw [Lib.index_one]
  rcases idxF_eq c s with ⟨h1, h2⟩ | ⟨i, h1, h2, h3⟩
  · rw [h1, h2]; simp
  · rw [h1, h2]; simp <;> omega
def decF : Nat → Nat → List UInt8
  | 0, _ => []
  | k + 1, u => match Nat.blt u 10 with
    | true => [UInt8.ofNat (48 + u)]
    | false => decF k (u / 10) ++ [UInt8.ofNat (48 + u % 10)]
theorem decF_eq : ∀ (k u : Nat), 0 < k → u < 10 ^ k → decF k u = Lib.decDigits u
  | 0, u, h, _ => absurd h (by omega)
  | k + 1, u, _, h => by
    rw [Lib.decDigits]
    unfold decF
    by_cases hu : u < 10
    · have : Nat.blt u 10 = true := by simpa [Nat.blt_eq] using hu
      rw [this, dif_pos hu]
    · have : Nat.blt u 10 = false := by
        cases h' : Nat.blt u 10
        · rfl
        · exact absurd (by simpa [Nat.blt_eq] using h') hu
      rw [this, dif_neg hu]
      have hk : 0 < k := by
        rcases Nat.eq_zero_or_pos k with rfl | hk
        · simp at h; omega
        · exact hk
      have : u / 10 < 10 ^ k := by
        rw [Nat.div_lt_iff_lt_mul (by omega)]
        rw [Nat.pow_succ] at h; exact h
      simp only
      rw [decF_eq k (u / 10) hk this]
structure LibNos where
  split : Nat
  splitN : Nat
  cut : Nat
  atoi : Nat
  itoa : Nat
  trim : Nat
def strL (l : List (List UInt8)) : Res := .own 1 (.view (strs l))
def libF (q : LibNos) : CL := fun f args => match args with
  | [(false, [.lit (.string s)]), (false, [.lit (.string t)])] => match Nat.ble s.size 1000000 with
    | true => match t.data.toList with
      | [c] => match Nat.beq f q.split with
        | true => .inr (strL (spl c.toNat s.data.toList))
        | false => match Nat.beq f q.cut with
          | true => .inr (.tup [SS (cutF c s.data.toList).1, SS (cutF c s.data.toList).2.1, (false, [.lit (.bool (cutF c s.data.toList).2.2)])])
          | false => match Nat.beq f q.trim with
            | true => .inr (.one (SS (Lib.trimPrefix s.data.toList t.data.toList)))
            | false => .inl [f]
      | _ => .inl [f]
    | false => .inl [f]
  | [(false, [.lit (.string s)]), (false, [.lit (.string t)]), (false, [.lit (.int .i64 n)])] => match Nat.beq f q.splitN && Nat.ble s.size 1000000 && Nat.ble 1 n.toNat && Nat.ble n.toNat 1000 with
    | true => match t.data.toList with
      | [c] => .inr (strL (splN c (min n.toNat (s.data.toList.length + 1) - 1) s.data.toList))
      | _ => .inl [f]
    | false => .inl [f]
  | [(false, [.lit (.string s)])] => match Nat.beq f q.atoi && Nat.ble s.size 1000000 with
    | true => match Lib.atoiAll s.data.toList with
      | .ok v => .inr (.tup [(false, [.lit (.int .i64 v)]), (false, [.lit .nilIface])])
      | _ => .inl [f]
    | false => .inl [f]
  | [(false, [.lit (.int .i64 n)])] => match Nat.beq f q.itoa with
    | true => match n with
      | .ofNat u => match Nat.ble u 9223372036854775807 with
        | true => .inr (.one (SS (decF 20 u)))
        | false => .inl [f]
      | .negSucc u => match Nat.ble u 9223372036854775807 with
        | true => .inr (.one (SS (45 :: decF 20 (u + 1))))
        | false => .inl [f]
    | false => .inl [f]
  | _ => .inl [f]
theorem libF_ok {P : Program} {gl : Glob} (q : LibNos)
    (h1 : ∀ (s : List UInt8) (c : UInt8), s.length ≤ 1000000 → Sat P gl q.split [SS s, SS [c]] (strL (spl c.toNat s)))
    (h2 : ∀ (s : List UInt8) (c : UInt8) (n : Nat), s.length ≤ 1000000 → 1 ≤ n → n ≤ 1000 → Sat P gl q.splitN [SS s, SS [c], (false, [.lit (.int .i64 n)])] (strL (splN c (min n (s.length + 1) - 1) s)))
    (h3 : ∀ (s : List UInt8) (c : UInt8), s.length ≤ 1000000 → Sat P gl q.cut [SS s, SS [c]] (.tup [SS (cutF c s).1, SS (cutF c s).2.1, (false, [.lit (.bool (cutF c s).2.2)])]))
    (h4 : ∀ (s : List UInt8) (v : Int), s.length ≤ 1000000 → Lib.atoiAll s = .ok v → Sat P gl q.atoi [SS s] (.tup [(false, [.lit (.int .i64 v)]), (false, [.lit .nilIface])]))
    (h5 : ∀ (n : Int), -9223372036854775808 ≤ n ∧ n ≤ 9223372036854775807 → Sat P gl q.itoa [(false, [.lit (.int .i64 n)])] (.one (SS (Lib.itoa n))))
    (h6 : ∀ (s p : List UInt8), Sat P gl q.trim [SS s, SS p] (.one (SS (Lib.trimPrefix s p)))) :
    ∀ f a r, libF q f a = .inr r → Sat P gl f a r := by
  have hB : ∀ s : ByteArray, SS s.data.toList = (false, [.lit (.string s)]) := fun s => by unfold SS; rw [B_of]
  have hS : ∀ s : ByteArray, s.size = s.data.toList.length := fun s => Lib.size_eq s
  intro f a r h
  unfold libF at h
  split at h
  · rename_i s t
    split at h
    · rename_i hs
      have hs := Nat.le_of_ble_eq_true hs
      rw [hS] at hs
      split at h
      · rename_i c hc
        have ht : SS [c] = (false, [SC.lit (.string t)]) := by rw [← hc]; exact hB t
        rw [← hB s, ← ht]
        split at h
        · rename_i hf
          cases h; rw [Nat.eq_of_beq_eq_true hf]; exact h1 _ _ hs
        · split at h
          · rename_i hf
            cases h; rw [Nat.eq_of_beq_eq_true hf]; exact h3 _ _ hs
          · split at h
            · rename_i hf
              cases h; rw [Nat.eq_of_beq_eq_true hf, hc]; exact h6 _ _
            · cases h
      · cases h
    · cases h
  · rename_i s t n
    split at h
    · rename_i hb
      obtain ⟨hb, b4⟩ := ble_and hb
      obtain ⟨hb, b3⟩ := ble_and hb
      obtain ⟨b1, b2⟩ := ble_and hb
      have b2 := Nat.le_of_ble_eq_true b2
      have b3 := Nat.le_of_ble_eq_true b3
      have b4 := Nat.le_of_ble_eq_true b4
      rw [hS] at b2
      split at h
      · rename_i c hc
        have ht : SS [c] = (false, [SC.lit (.string t)]) := by rw [← hc]; exact hB t
        cases h
        have hn : n = (n.toNat : Int) := by omega
        rw [← hB s, ← ht, Nat.eq_of_beq_eq_true b1, hn]
        simp only [Int.toNat_natCast]
        exact h2 _ _ _ b2 b3 b4
      · cases h
    · cases h
  · rename_i s
    split at h
    · rename_i hb
      obtain ⟨b1, b2⟩ := ble_and hb
      have b2 := Nat.le_of_ble_eq_true b2
      rw [hS] at b2
      split at h
      · rename_i v hv
        cases h
        rw [← hB s, Nat.eq_of_beq_eq_true b1]
        exact h4 _ _ b2 hv
      · cases h
    · cases h
  · rename_i n
    split at h
    · rename_i hf
      rw [Nat.eq_of_beq_eq_true hf]
      split at h
      · rename_i u
        split at h
        · rename_i hu
          have hu := Nat.le_of_ble_eq_true hu
          cases h
          have := h5 (Int.ofNat u) (by constructor <;> simp <;> omega)
          unfold Lib.itoa at this
          rw [if_neg (by simp <;> omega)] at this
          rw [decF_eq 20 u (by omega) (by have : (10:Nat) ^ 20 = 100000000000000000000 := by decide
                                          omega)]
          exact this
        · cases h
      · rename_i u
        split at h
        · rename_i hu
          have hu := Nat.le_of_ble_eq_true hu
          cases h
          have := h5 (Int.negSucc u) (by constructor <;> omega)
          unfold Lib.itoa at this
          rw [if_pos (by omega)] at this
          rw [decF_eq 20 (u + 1) (by omega) (by have : (10:Nat) ^ 20 = 100000000000000000000 := by decide
                                                omega)]
          exact this
        · cases h
    · cases h
  · cases h
theorem splN_length (c : UInt8) : ∀ (k : Nat) (s : List UInt8), (splN c k s).length ≤ k + 1
  | 0, _ => by simp [splN]
  | k + 1, s => by
    unfold splN
    split
    · simp
    · rename_i i _
      have := splN_length c k (s.drop (i + 1)); simpa using this
theorem repL_three {mv mr : Mem} {vs : Array Value} {c d e : SC} (h : RepL mv mr vs [(false, [c]), (false, [d]), (false, [e])]) : ∃ v u x, vs = #[v, u, x] ∧ Rep mv mr v c ∧ Rep mv mr u d ∧ Rep mv mr x e := by
  obtain ⟨hs, hh⟩ := h
  obtain ⟨v, u, x, rfl⟩ : ∃ v u x, vs = #[v, u, x] := by
    rcases vs with ⟨l⟩
    match l, hs with
    | [v, u, x], _ => exact ⟨v, u, x, rfl⟩
  obtain ⟨y, e1, r1⟩ := hh 0 _ rfl
  obtain ⟨y2, e2, r2⟩ := hh 1 _ rfl
  obtain ⟨y3, e3, r3⟩ := hh 2 _ rfl
  cases e1; cases e2; cases e3
  exact ⟨v, u, x, rfl, r1, r2, r3⟩
theorem splitN_gen {P : Program} {gl : Glob} {ρ : Ren} (L : Proofs.Lays.n147 P ρ) (hok : fnOk P (ρ.f 147) = true) (hi9 : (P.info? (ρ.t 9)).map (fun i => (i.zero, i.size, i.bytes)) = some (some (.string ByteArray.empty), 1, 16))
    (hg : (ρ.g 1, [SC.num .i64]) ∈ gl) (s : List UInt8) (c : UInt8) (n : Nat) (hl : s.length ≤ 1000000) (hn : 1 ≤ n) (hn2 : n ≤ 1000) : Sat P gl (ρ.f 147) [SS s, SS [c], (false, [.lit (.int .i64 n)])] (strL (splN c (min n (s.length + 1) - 1) s)) := by
  refine .inl ⟨hok, fun mv w vs _ hG hvs => ?_⟩
  obtain ⟨x, y, y3, rfl, hr, hr', hr3⟩ := repL_three hvs
  rw [rep_lit hr, rep_lit hr', rep_lit hr3]
  obtain ⟨ev, h1, h2⟩ := (hG _ _ hg).1 0 _ rfl
  have hev : ∃ m, ev = .int .i64 m := by
    cases h2 with
    | num h => exact h
    | empty a cap hv => simp [SC.isView] at hv
    | view _ _ _ _ _ hv => simp [SC.isView] at hv
  obtain ⟨m, rfl⟩ := hev
  refine (Proofs.Any.strings_SplitN L hi9 (B s) (B [c]) n m w (by rw [B_size]; omega) h1 (by rw [B_size]; exact Nat.le_refl 1) hn (by omega)).mono fun e w' he => ?_
  obtain ⟨rfl, rfl⟩ := he
  have hle := splN_length c (min n (s.length + 1) - 1) s
  have hsp : (Lib.splitB (B [c]) 0 (min n ((B s).size + 1) - 1) (B s)) = (splN c (min n (s.length + 1) - 1) s).map B := by
    have h := Lib.splitB_data (B [c]) 0 (min n ((B s).size + 1) - 1) (B s)
    rw [B_data, B_data, splN_eq] at h
    have : (splN c (min n (s.length + 1) - 1) s).map B = ((Lib.splitB (B [c]) 0 (min n ((B s).size + 1) - 1) (B s)).map (·.data.toList)).map B := by rw [h, B_size]
    rw [this, List.map_map]
    have e : (B ∘ fun x : ByteArray => x.data.toList) = id := by funext x; exact B_of x
    rw [e, List.map_id]
  rw [hsp, B_size]
  generalize hL : splN c (min n (s.length + 1) - 1) s = l at hle ⊢
  have hle' : l.length ≤ min n (s.length + 1) := by omega
  refine ⟨_, rfl, Below.alloc1 _ _, .inr ⟨w.heap.size, min n (s.length + 1), by simp [SC.len], Nat.le_refl _, _, _, alloc_at w _, by rw [Lib.cellsOf_size (by simpa using hle')]; simp, by decide, rfl, by simpa [SC.len] using hle', fun i e he => ?_, fun i e j x he hx => ?_⟩⟩
  · obtain ⟨u, _, rfl⟩ := strs_elem he; rfl
  · obtain ⟨u, hu, rfl⟩ := strs_elem he
    cases j with
    | zero =>
      simp at hx; subst hx
      rw [show i * 1 + 0 = i by omega, Array.getD_eq_getD_getElem?]
      have hi : i < l.length := (List.getElem?_eq_some_iff.1 hu).1
      have : (Lib.cellsOf (l.map B) (min n (s.length + 1)))[i]? = some (.string (B u)) := by
        unfold Lib.cellsOf
        rw [List.getElem?_toArray, List.getElem?_append_left (by simpa using hi)]
        simp [hu]
      rw [this]
      exact .lit rfl
    | succ j => simp at hx
end Go.Fw
namespace Go.Fw
open Go.RowKit (Below)
open Classical
section
variable {C : Ctx} {F : Fix} {β : Nat → Option Nat} {N : Nat → Prop} {H : HF} {fid : Nat} {w : World}
theorem row_edit (hR : HeapRel F β N H w) (hf : ¬ N fid) {z id b cap : Nat} {c c' : SC} {arr arr' : Array Value} {T : TypeId} (hb : H id = some (.row true z c)) (hβ : β id = some b) (harr : w.heap[b]? = some (.cells arr T)) (hsz : arr.size = cap * z) (hss : arr'.size = arr.size)
    (hv : c'.isView = true) (hle : c'.len ≤ cap) (hel : ∀ i e, c'.elem i = some e → e.length = z) (hc : ∀ i e j x, c'.elem i = some e → e[j]? = some x → Rep nomem nomem (arr'.getD (i * z + j) undef) x) :
    ∃ β', Tr F β N H w β' (setN N fid) (Hp.on [(fid, some (.row true z c')), (id, none)] H) (w.setRow b arr') ∧ HeapRel F β' (setN N fid) (Hp.on [(fid, some (.row true z c')), (id, none)] H) (w.setRow b arr') ∧
      RepDV F β' (setN N fid) (Hp.on [(fid, some (.row true z c')), (id, none)] H) (w.setRow b arr') (.slice (some ⟨b, 0, none⟩) c'.len cap) (one (.own fid)) := by
  obtain ⟨hn, ⟨hz, hvw, hl0⟩, hrow⟩ := hR.rel id _ hb
  rcases hrow with ⟨q, _⟩ | ⟨b', cap', q1, q2, arr0, T0, q3, q4, q5⟩
  · rw [hβ] at q; cases q
  rw [hβ] at q1; cases q1
  rw [harr] at q3; cases q3
  have hidf : id ≠ fid := fun e => hf (e ▸ hn)
  have hat : (w.setRow b arr').heap[b]? = some (.cells arr' T) := setRow_heap w b arr _ T (0, 0) harr
  show ∃ β', Tr F β N H w β' (setN N fid) (updH (updH H id none) fid (some (.row true z c'))) (w.setRow b arr') ∧ HeapRel F β' (setN N fid) (updH (updH H id none) fid (some (.row true z c'))) (w.setRow b arr') ∧
      RepDV F β' (setN N fid) (updH (updH H id none) fid (some (.row true z c'))) (w.setRow b arr') (.slice (some ⟨b, 0, none⟩) c'.len cap) (one (.own fid))
  have live : ∀ {k : Nat} {b0 : Blk}, k ≠ fid → updH (updH H id none) fid (some (.row true z c')) k = some b0 → k ≠ id ∧ H k = some b0 := by
    intro k b0 hk h
    rw [updH_ne _ _ _ hk] at h
    by_cases hki : k = id
    · subst hki; rw [updH_same] at h; cases h
    · rw [updH_ne _ _ _ hki] at h; exact ⟨hki, h⟩
  have hT : Tr F β N H w (setB β fid (some b)) (Fw.setN N fid) (updH (updH H id none) fid (some (.row true z c'))) (w.setRow b arr') := by
    refine ⟨Keep.setRow (hR.live_lt hb hβ).2 _, fun b' o v _ hs e => ⟨fun id' blk e' hb' => ?_, ?_⟩, fun _ h => .inl h, fun id' hn' => setB_ne _ _ _ fun e => hf (e ▸ hn'), fun id' blk' hn' e => ?_, fun _ _ _ b' arr0 T0 _ _ _ _ _ e => ?_, setRow_others ⟨_, _, harr⟩ _⟩
    · by_cases hk : id' = fid
      · subst hk
        rw [setB_same] at hb'; cases hb'
        have := hs id _ hb hβ
        simp [Blk.stab] at this
      · rw [setB_ne _ _ _ hk] at hb'
        exact hs id' blk (live hk e').2 hb'
    · by_cases hk : b' = b
      · subst hk
        have := hs id _ hb hβ
        simp [Blk.stab] at this
      · unfold rd at e ⊢
        rw [cell_setRow_other w b _ _ hk]; exact e
    · have hk : id' ≠ fid := fun e => hf (e ▸ hn')
      exact ⟨blk', (live hk e).2, blk'.like_refl⟩
    · by_cases hk : b' = b
      · subst hk
        rw [harr] at e; cases e
        exact ⟨_, hat, hss⟩
      · exact ⟨arr0, by rw [setRow_other w b b' _ hk]; exact e, rfl⟩
  have hH : HeapRel F (setB β fid (some b)) (Fw.setN N fid) (updH (updH H id none) fid (some (.row true z c'))) (w.setRow b arr') := by
    refine hR.step hT (fun i => i = fid) (fun i blk hi e => ?_) (fun i blk hi e => ?_) (fun i j x y y' hi hj bi bj => ?_)
    · obtain ⟨h1, h2⟩ := live hi e
      refine ⟨h2, (hR.rel i blk h2).1, fun b1 hb1 => setRow_other w b b1 _ fun hbb => h1 ?_⟩
      subst hbb
      exact hR.inj i id b1 blk _ h2 hb hb1 hβ
    · subst hi
      rw [updH_same] at e; cases e
      exact ⟨.inr rfl, ⟨hz, hv, hel⟩, .inr ⟨b, cap, by simp [setB], q2, arr', T, hat, by rw [hss, hsz], hz, hv, hle, hel, fun i e' j x he hx => (hc i e' j x he hx).mono (nomem_le _) (Mem.le_refl _)⟩⟩
    · by_cases h1 : i = fid
      · by_cases h2 : j = fid
        · rw [h1, h2]
        · exfalso
          subst h1
          rw [setB_same] at bi; cases bi
          rw [setB_ne _ _ _ h2] at bj
          obtain ⟨h3, h4⟩ := live h2 hj
          exact h3 (hR.inj j id b _ _ h4 hb bj hβ)
      · by_cases h2 : j = fid
        · exfalso
          subst h2
          rw [setB_same] at bj; cases bj
          rw [setB_ne _ _ _ h1] at bi
          obtain ⟨h3, h4⟩ := live h1 hi
          exact h3 (hR.inj i id b _ _ h4 hb bi hβ)
        · rw [setB_ne _ _ _ h1] at bi
          rw [setB_ne _ _ _ h2] at bj
          exact hR.inj i j x _ _ (live h1 hi).2 (live h2 hj).2 bi bj
  refine ⟨_, hT, hH, repOne ⟨.inr rfl, rfl, fun blk0 z' n' hb' hz' => ?_⟩⟩
  have : updH (updH H id none) fid (some (.row true z c')) fid = some blk0 := hb'
  rw [updH_same] at this; cases this; cases hz'
  exact .inr ⟨b, cap, _, T, by simp [setB], rfl, hat, by rw [hss, hsz]⟩
theorem delete_call {f : FuncId} (hok : fnOk C.P f = true) (zs : List (List UInt8)) (i j : Nat) (hij : i < j) (hj : j ≤ zs.length)
    (hrun : ∀ (b cap : Nat) (arr : Array Value) (T : TypeId) (w : World), w.heap[b]? = some (.cells arr T) → arr.size = cap → zs.length ≤ cap → (∀ k, k < zs.length → arr[k]? = some (.string (B (zs.getD k [])))) →
      Calls C.P f #[.slice (some ⟨b, 0, none⟩) zs.length cap, .int .i64 i, .int .i64 j] w fun e w' => e = .returned (.slice (some ⟨b, 0, none⟩) (i + (zs.length - j)) cap) ∧
        ∃ arr', w' = w.drew.setRow b arr' ∧ arr'.size = arr.size ∧ ∀ k, k < i + (zs.length - j) → arr'[k]? = some (.string (B ((zs.take i ++ zs.drop j).getD k []))))
    {id : Nat} (hb : H id = some (.row true 1 (.view (strs zs)))) :
    HCall C fid f [(false, [.own id]), (false, [.st (.lit (.int .i64 i))]), (false, [.st (.lit (.int .i64 j))])] H (one (.own fid)) [(fid, some (.row true 1 (.view (strs (zs.take i ++ zs.drop j))))), (id, none)] [id] := by
  refine ⟨hok, fun F β N H' w vs hH hG hR hf hsz hv => ?_⟩
  have hb' : H' id = some (.row true 1 (.view (strs zs))) := by rw [hH id (by simp), hb]
  obtain ⟨hn, h1, h2⟩ : RepD F β N H' w (vs.getD 0 undef) (.own id) := (hv 0 _ rfl).one_inv
  have e1 : vs.getD 1 undef = .int .i64 i := (RepD.lit_inv ((hv 1 _ rfl).one_inv)).1
  have e2 : vs.getD 2 undef = .int .i64 j := (RepD.lit_inv ((hv 2 _ rfl).one_inv)).1
  have hlen : (SC.view (strs zs)).len = zs.length := by simp [SC.len]
  rcases h2 _ _ _ hb' rfl with ⟨_, h0, _⟩ | ⟨b, cap, arr, T, a1, a2, a3, a4⟩
  · rw [hlen] at h0; omega
  rw [hlen] at a2
  have hvs : vs = #[.slice (some ⟨b, 0, none⟩) zs.length cap, .int .i64 i, .int .i64 j] := by
    have h3 : vs.size = 3 := hsz
    apply Array.ext
    · simp [h3]
    · intro k hk _
      rw [h3] at hk
      have hg : ∀ k (hk : k < vs.size), vs[k] = vs.getD k undef := fun k hk => by simp [Array.getD, hk]
      rw [hg]
      match k, hk with
      | 0, _ => exact a2
      | 1, _ => exact e1
      | 2, _ => exact e2
  obtain ⟨_, ⟨hz, hvw, hel⟩, hrow⟩ := hR.rel id _ hb'
  rcases hrow with ⟨q, _⟩ | ⟨b', cap', q1, q2, arr', T', p1, p2, p3, p4, p5, p6, p7⟩
  · rw [q] at a1; cases a1
  rw [a1] at q1; cases q1
  rw [a3] at p1; cases p1
  have hcc : cap = cap' := by omega
  subst hcc
  rw [hlen] at p5
  have hget : ∀ k, k < zs.length → arr[k]? = some (.string (B (zs.getD k []))) := fun k hk => by
    have := p7 k [.lit (.string (B (zs.getD k [])))] 0 (.lit (.string (B (zs.getD k [])))) (by simp [SC.elem, strs, List.getD_eq_getElem?_getD, hk]) rfl
    simp only [Nat.mul_one, Nat.add_zero] at this
    have hlt : k < arr.size := by omega
    have e := (RepD.lit_inv (F := F) (β := β) (N := N) (H := H') (w := w) (Rep.mono (Mem.le_refl _) (nomem_le _) this)).1
    rw [← e]; simp [Array.getD_eq_getD_getElem?, hlt]
  rw [hvs]
  refine (hrun b cap arr T w a3 (by omega) p5 hget).mono fun e w1 he => ?_
  obtain ⟨rfl, arr2, rfl, s1, s2⟩ := he
  have hB : Below w.heap.size w w.drew := (Below.refl _ _).drew
  have hR1 := hR.grow hB
  have t1 := Tr.grow hR hB
  have hl2 : (SC.view (strs (zs.take i ++ zs.drop j))).len = i + (zs.length - j) := by simp [SC.len]; omega
  obtain ⟨β', g1, g2, g3⟩ := row_edit (c' := .view (strs (zs.take i ++ zs.drop j))) hR1 (fun h => hf _ h rfl) hb' a1 (show w.drew.heap[b]? = some (.cells arr T) from a3) a4 s1 rfl (by rw [hl2]; omega) (fun k e he => by obtain ⟨w, _, rfl⟩ := strs_elem he; rfl) fun k e m x he hx => by
    obtain ⟨s, hs, rfl⟩ := strs_elem he
    have hk : k < i + (zs.length - j) := by have := SC.elem_lt he; rwa [hl2] at this
    cases m with
    | succ m => simp at hx
    | zero =>
      simp at hx; subst hx
      have := s2 k hk
      rw [List.getD_eq_getElem?_getD, hs, Option.getD_some] at this
      rw [Nat.mul_one, Nat.add_zero, Array.getD_eq_getD_getElem?, this]
      exact .lit rfl
  rw [hl2] at g3
  exact ⟨_, β', rfl, t1.trans g1, g2, g3⟩
end
end Go.Fw
namespace Go.Fw
def beqV : Value → Value → Bool
  | .int k a, .int k' b => decide (k = k') && decide (a = b)
  | .bool a, .bool b => decide (a = b)
  | .string a, .string b => decide (a.data.toList = b.data.toList)
  | .nilIface, .nilIface => true
  | .pointer none, .pointer none => true
  | _, _ => false
theorem beqV_ok {a b : Value} (h : beqV a b = true) : a = b := by
  unfold beqV at h
  split at h
  · simp only [Bool.and_eq_true, decide_eq_true_eq] at h; obtain ⟨rfl, rfl⟩ := h; rfl
  · simp only [decide_eq_true_eq] at h; rw [h]
  · rename_i a b
    simp only [decide_eq_true_eq] at h
    obtain ⟨a⟩ := a
    obtain ⟨b⟩ := b
    have : a = b := Array.ext' h
    rw [this]
  · rfl
  · rfl
  · cases h
def beqL {α : Type} (f : α → α → Bool) : List α → List α → Bool
  | [], [] => true
  | x :: l, y :: l' => match f x y with
    | true => beqL f l l'
    | false => false
  | _, _ => false
theorem beqL_ok {α : Type} {f : α → α → Bool} (hf : ∀ x y, f x y = true → x = y) : ∀ {l l' : List α}, beqL f l l' = true → l = l'
  | [], [], _ => rfl
  | x :: l, y :: l', h => by
    simp only [beqL] at h
    split at h
    · rename_i e; rw [hf _ _ e, beqL_ok hf h]
    · cases h
  | [], _ :: _, h => by cases h
  | _ :: _, [], h => by cases h
def beqC : Nat → SC → SC → Bool
  | 0, _, _ => false
  | n + 1, a, b => match a, b with
    | .lit a, .lit b => beqV a b
    | .ints a, .ints b => beqL (fun x y => decide (x = y)) a b
    | .view a, .view b => beqL (beqL (beqC n)) a b
    | .ref a, .ref b => beqL (beqC n) a b
    | _, _ => false
theorem beqC_ok : ∀ (n : Nat) (a b : SC), beqC n a b = true → a = b
  | 0, _, _, h => by cases h
  | n + 1, a, b, h => by
    unfold beqC at h
    split at h
    · rw [beqV_ok h]
    · rw [beqL_ok (fun x y e => of_decide_eq_true e) h]
    · rw [beqL_ok (fun x y e => beqL_ok (fun x y e => beqC_ok n x y e) e) h]
    · rw [beqL_ok (fun x y e => beqC_ok n x y e) h]
    · cases h
def beqX (x y : SV) : Bool := match decide (x.1 = y.1) with
  | true => beqL (beqC 6) x.2 y.2
  | false => false
theorem beqX_ok {x y : SV} (h : beqX x y = true) : x = y := by
  unfold beqX at h
  split at h
  · rename_i e
    obtain ⟨a, b⟩ := x
    obtain ⟨c, d⟩ := y
    have h1 := of_decide_eq_true e
    have h2 := beqL_ok (beqC_ok 6) h
    simp only at h1 h2
    rw [h1, h2]
  · cases h
abbrev Memo := List (FuncId × List SV × Res)
def memo : Memo → CL
  | [], f, _ => .inl [f, 1000040]
  | (g, l, r) :: t, f, args => match Nat.beq f g with
    | true => match beqL beqX args l with
      | true => .inr r
      | false => memo t f args
    | false => memo t f args
def MemoOk (P : Program) (gl : Glob) (t : Memo) : Prop := ∀ p ∈ t, Sat P gl p.1 p.2.1 p.2.2
theorem memo_ok {P : Program} {gl : Glob} : ∀ {t : Memo}, MemoOk P gl t → ∀ f a r, memo t f a = .inr r → Sat P gl f a r
  | [], _, f, a, r, h => by cases h
  | (g, l, r0) :: t, ht, f, a, r, h => by
    unfold memo at h
    have hr := memo_ok (t := t) (fun p hp => ht p (List.mem_cons_of_mem _ hp)) f a r
    split at h
    · rename_i e
      split at h
      · rename_i e2
        cases h
        rw [Nat.eq_of_beq_eq_true e, beqL_ok (fun x y => beqX_ok) e2]
        exact ht _ List.mem_cons_self
      · exact hr h
    · exact hr h
theorem MemoOk.cons {P : Program} {gl : Glob} {t : Memo} {f : FuncId} {l : List SV} {r : Res} (h : Sat P gl f l r) (ht : MemoOk P gl t) : MemoOk P gl ((f, l, r) :: t) := fun p hp => by
  rcases List.mem_cons.1 hp with rfl | hp
  · exact h
  · exact ht p hp
theorem MemoOk.nil {P : Program} {gl : Glob} : MemoOk P gl [] := fun p hp => by cases hp
def orC (a b : CL) : CL := fun f args => match a f args with
  | .inr r => .inr r
  | .inl _ => b f args
theorem orC_ok {P : Program} {gl : Glob} {a b : CL} (ha : ∀ f x r, a f x = .inr r → Sat P gl f x r) (hb : ∀ f x r, b f x = .inr r → Sat P gl f x r) : ∀ f x r, orC a b f x = .inr r → Sat P gl f x r := by
  intro f x r h
  unfold orC at h
  split at h
  · rename_i e; cases h; exact ha _ _ _ e
  · exact hb _ _ _ h
end Go.Fw
namespace Go.Fw
open Go.RowKit (Below)
open Classical
structure Tail (R : Hp) : Prop where
  nd : (keysH R).Nodup
  key : ∀ k ∈ keysH R, 17 ≤ k ∧ k < 4294967296 ∧ k % 2 = 1
  row : ∀ k b, R.get k = some b → ∃ m z c, b = .row m z c
def idm (R : Hp) : List (Nat × Nat) := (keysH R).map fun k => (k, k)
def notT (k : Nat) : Bool := Nat.blt k 17 || Nat.beq (k % 2) 0 || Nat.ble 4294967296 k
theorem Tail.not {R : Hp} (h : Tail R) {k : Nat} (hk : notT k = true) : k ∉ keysH R := fun hm => by
  obtain ⟨h1, h2, h3⟩ := h.key k hm
  simp [notT, Nat.blt_eq] at hk
  omega
theorem Tail.tag {R : Hp} (h : Tail R) {k : Nat} (hk : k ∈ keysH R) : tag k = 0 := by
  obtain ⟨h1, h2, h3⟩ := h.key k hk
  rw [tag_odd h3]; omega
theorem idm_mem {R : Hp} {o n : Nat} : (o, n) ∈ idm R ↔ o ∈ keysH R ∧ n = o := by
  unfold idm
  rw [List.mem_map]
  constructor
  · rintro ⟨k, h, e⟩
    cases e; exact ⟨h, rfl⟩
  · rintro ⟨h, e⟩; subst e; exact ⟨n, h, rfl⟩
def okM (m : List (Nat × Nat)) : Bool := distinct (m.map Prod.fst) && distinct (m.map Prod.snd) && m.all fun p => notT p.1 && notT p.2
theorem RenOk.tail {m : List (Nat × Nat)} {H : HF} {Y R : Hp} (hT : Tail R) (hm : okM m = true) (hY : ∀ n b', Y.get n = some b' → ∃ o b, (o, n) ∈ m ∧ H o = some b ∧ renBlk (m ++ idm R) b = some b')
    (hYk : ∀ n ∈ keysH Y, notT n = true) (hR : ∀ k ∈ keysH R, H k = R.get k) : RenOk (m ++ idm R) H (Hp.get (Y ++ R)) := by
  have hm0 := hm
  unfold okM at hm
  simp only [Bool.and_eq_true, List.all_eq_true] at hm
  obtain ⟨⟨h1, h2⟩, h3⟩ := hm
  refine ⟨?_, ?_, fun n b' e => ?_⟩
  · rw [List.map_append, show (idm R).map Prod.fst = keysH R by simp [idm, Function.comp_def], List.nodup_append]
    refine ⟨distinct_nodup h1, hT.nd, fun a ha b hb hab => ?_⟩
    subst hab
    obtain ⟨p, hp, rfl⟩ := List.mem_map.1 ha
    exact hT.not (h3 p hp).1 hb
  · rw [List.map_append, show (idm R).map Prod.snd = keysH R by simp [idm, Function.comp_def], List.nodup_append]
    refine ⟨distinct_nodup h2, hT.nd, fun a ha b hb hab => ?_⟩
    subst hab
    obtain ⟨p, hp, rfl⟩ := List.mem_map.1 ha
    exact hT.not (h3 p hp).2 hb
  · rw [Hp.get_append, on_key] at e
    by_cases hn : n ∈ keysH Y
    · rw [if_pos hn] at e
      obtain ⟨o, b, g1, g2, g3⟩ := hY n b' e
      exact ⟨o, b, List.mem_append.2 (.inl g1), g2, g3⟩
    · rw [if_neg hn] at e
      have hk := Hp.get_key e
      refine ⟨n, b', List.mem_append.2 (.inr (idm_mem.2 ⟨hk, rfl⟩)), by rw [hR n hk, e], ?_⟩
      obtain ⟨m', z, c, rfl⟩ := hT.row n b' e
      rfl
structure New (T : Hp) : Prop where
  nd : (keysH T).Nodup
  lt : ∀ k ∈ keysH T, 0 < k ∧ k < 4294967296 ∧ tag k = 0
  ment : ∀ k b, T.get k = some b → b.ment (· ∈ keysH T)
theorem RnOk.new {T : Hp} (hT : New T) {ρ : Nat → Nat} (hi : ∀ i ∈ keysH T, ∀ j ∈ keysH T, ρ i = ρ j → i = j) : RnOk (keysH T) ρ T.get (rnHp ρ T).get := by
  refine ⟨hT.nd, hi, hT.ment, fun n b' e => ?_⟩
  have hk := Hp.get_key e
  have hk2 : n ∈ (keysH T).map ρ := by rw [← rnHp_keys]; exact hk
  obtain ⟨k, hk3, rfl⟩ := List.mem_map.1 hk2
  rw [rnHp_get hi k hk3] at e
  cases hg : T.get k with
  | none => rw [hg] at e; cases e
  | some b => rw [hg] at e; simp only [Option.map_some, Option.some.injEq] at e; exact ⟨k, b, hk3, rfl, hg, e.symm⟩
section
variable {C : Ctx} {f : FuncId} {fid nx : Nat} {xs : List DX} {T' : Hp} {r : DV} {H : HF}
theorem New.inj (hT : New T') (n : Nat) : ∀ i ∈ keysH T', ∀ j ∈ keysH T', fresh n 0 i = fresh n 0 j → i = j :=
  fun i hi j hj h => fresh_inj (hT.lt i hi).2.1 (hT.lt j hj).2.1 (.inr (by omega)) h
theorem New.tag (hT : New T') {n k : Nat} (hk : k ∈ keysH T') : Fw.tag (fresh n 0 k) = n := fresh_tag (by have := (hT.lt k hk).1; omega) (hT.lt k hk).2.1
end
section
variable {C : Ctx} {fid : Nat} {o : Oper} {E : Env} {H : Hp} {t : Trace} {k : Env → Hp → Trace → Prop} {T : TypeId} {x y : Operand} {a : List UInt8}
theorem rClo {f : FuncId} {first caps : Array Operand} {id : Nat} (ho : o.op = .makeFunc (.func f) first caps) (hf : first.toList = []) (hc : caps.toList.map (C.ev E.get) = [some (.val (false, [.ptr id 0]))])
    (h2 : putK o.dst (one (.clo f id)) E fun E' => k E' H (([], []) :: t)) : RunO C fid o E H t k := by
  refine rGX (P := True) (r := one (.clo f id)) (u := []) (R := []) ?_ trivial h2
  unfold effX
  rw [ho]
  simp only [hf, hc]
theorem rVMH {i : TI} {e : TypeId} {ie : TI} {es : List (List SC)} {zz : Int} {n : Nat} {k' : IntKind} [nz : NatOf zz n] (hu : ∀ e ∈ es, e.length = ie.size) (ho : o.op = .slice T x none (some y) none) (hx : C.ev E.get x = some (.val (false, [.st (.view es)]))) (hy : C.ev E.get y = some (.val (false, [.st (.lit (.int k' zz))])))
    (hi : C.ti T = some i) (hc : i.cls = .slice e) (he : C.ti e = some ie) (hb : n ≤ es.length)
    (h2 : putK o.dst (one (.st (.view (es.take n)))) E fun E' => k E' H (([], []) :: t)) : RunO C fid o E H t k := by
  refine rG (r := one (.st (.view (es.take n)))) (u := []) (R := []) (fun K hK => ?_) h2
  have e0 : zz.toNat = n := by rw [nz.eq]; simp
  unfold opA
  rw [ho]
  simp only [hx, Option.map]
  unfold sliceA
  simp only [hi, hc, he, stat1L, stat1, hy, SC.isView, bnd, SC.len, SC.sub, List.drop_zero]
  refine ⟨by rw [nz.eq]; omega, ⟨by omega, by rw [e0]; exact hb⟩, fun e he => hu e he, ?_⟩
  rw [e0]
  exact hK
end
theorem Sat.own_one {P : Program} {gl : Glob} {f : FuncId} {args : List SV} {z : Nat} {c : SC} (h : Sat P gl f args (.own z c)) : Sat P gl f args (.one (false, [c])) := by
  rcases h with h | h
  · refine .inl ⟨h.1, fun mv w vs h1 h2 h3 => (h.2 mv w vs h1 h2 h3).mono fun e w' he => ?_⟩
    obtain ⟨v, rfl, hb, hr⟩ := he
    refine ⟨v, rfl, hb, c, rfl, ?_⟩
    rcases hr with ⟨rfl, h0, hv, _⟩ | ⟨b, cap, rfl, hn, arr, T, e1, e2, e3, e4, e5, e6, e7⟩
    · exact .empty _ _ hv h0
    · by_cases h0 : c.len = 0
      · rw [h0]; exact .empty _ _ e4 h0
      · refine .view b 0 cap z (fun k => arr.getD k undef) e4 (by omega) e3 e5 e6 (fun k hk => ?_) fun i e j x he hx => (e7 i e j x he hx).mono (fun b' o v h => ?_) (Mem.le_refl _)
        · rw [Nat.zero_add]
          unfold mvAfter
          rw [if_pos hn]
          refine rd_cells e1 ?_
          rw [e2]
          exact Nat.lt_of_lt_of_le hk (Nat.mul_le_mul_right z e5)
        · unfold Mem.but at h
          split at h
          · cases h
          · exact h
  · exact h.elim
end Go.Fw
namespace Go.Fw
structure Hdn (p : Prop) : Prop where
  out : p
inductive Dum (p : Prop) : Prop where
  | mk
theorem hdn2 {p q : Prop} (_ : Hdn q) (m : p) (_ : Dum q) : p := m
theorem cA {S S' : St} (h : canon (keysE S'.env) (findM S S') S'.nx S = some S' := by kernel_rfl) : Sub S S' := canon_sub h
def isCv : Op → Bool
  | .convert .. => true
  | _ => false
section
variable {C : Ctx} {all : List Oper} {n0 i fid : Nat} {o : Oper} {l : List Oper} {E : Env} {H : Hp} {t : Trace} {K : Env → Hp → Nat → Trace → Prop} {k : Env → Hp → Trace → Prop}
theorem cvO (_ : isCv o.op = true) (g : RunO C fid o E H t k) : RunO C fid o E H t k := g
theorem dR (g : RunO C fid o E H t k) : RunO C fid o E H t k := g
theorem dO (g : OpsA C all n0 l i E H t K) : OpsA C all n0 l i E H t K := g
theorem dA {c : Code} {S : St} {kn : St → Prop} {kx : Nat → St → Prop} {kr : St → Prop} (g : Awp C c S kn kx kr) : Awp C c S kn kx kr := g
theorem dB {b : Bool} {X Y : Prop} (g : Brn b X Y) : Brn b X Y := g
end
theorem tG {p q : Prop} (z : q) (h : Hdn q → p := by (intro zz; refine hdn2 (q := _) zz ?_ ?_; (repeat1' ((first | (refine dR ?_; first | (refine kO 0 rfl ?_; first | (refine cvO rfl ?_; first | refine rConv rfl rfl rfl rfl rfl rfl (cvI (by omega)) ?_ | refine rConv rfl rfl rfl rfl rfl rfl (cv8 (by omega)) ?_) | refine rP rfl (fun _ z => z) ?_ | refine rGX rfl trivial ?_ | refine rGX rfl (by (first | omega | decide | rfl | exact lnS (by omega) | exact lnN (by decide) | exact lnN (by omega) | exact lnC (by omega) | exact lvS (by omega) | exact lvN (by decide) | exact lvC (by omega) | exact uvS rfl | exact uvN rfl | ((try unfold SC.len); (try unfold SC.uni); (try unfold LIM); (try simp); (try omega); done) | omega)) ?_ | refine rG (fun _ z => ⟨(by (first | omega | decide | rfl | exact lnS (by omega) | exact lnN (by decide) | exact lnN (by omega) | exact lnC (by omega) | exact lvS (by omega) | exact lvN (by decide) | exact lvC (by omega) | exact uvS rfl | exact uvN rfl | ((try unfold SC.len); (try unfold SC.uni); (try unfold LIM); (try simp); (try omega); done) | omega)), z⟩) ?_ | refine rG (fun _ z => ⟨(by (first | omega | decide | rfl | exact lnS (by omega) | exact lnN (by decide) | exact lnN (by omega) | exact lnC (by omega) | exact lvS (by omega) | exact lvN (by decide) | exact lvC (by omega) | exact uvS rfl | exact uvN rfl | ((try unfold SC.len); (try unfold SC.uni); (try unfold LIM); (try simp); (try omega); done) | omega)), (by (first | omega | decide | rfl | exact lnS (by omega) | exact lnN (by decide) | exact lnN (by omega) | exact lnC (by omega) | exact lvS (by omega) | exact lvN (by decide) | exact lvC (by omega) | exact uvS rfl | exact uvN rfl | ((try unfold SC.len); (try unfold SC.uni); (try unfold LIM); (try simp); (try omega); done) | omega)), z⟩) ?_) | (refine kO 3 rfl ?_; first | refine rLdv rfl rfl rfl rfl rfl rfl (by assumption) ?_ | refine rLdr rfl rfl rfl rfl rfl ?_ | refine rLdb rfl rfl rfl rfl rfl rfl rfl ?_ | refine rLdi rfl rfl rfl rfl rfl rfl (by first | omega | decide | exact Nat.le_of_ble_eq_true rfl | (dsimp only [SC.len]; omega) | (simp; done) | (simp; omega) | omega) ?_ | refine rG (fun _ z => z) ?_ | refine rG (fun _ z => ⟨_, rfl, z⟩) ?_ | refine rG (fun _ z => ⟨_, (by assumption), z⟩) ?_) | (refine kO 1 rfl ?_; first | refine rSCat rfl rfl rfl (by first | omega | (simp; omega) | (simp only [List.length_append, List.length_cons, List.length_nil]; omega) | decide) ?_ | refine rSEq rfl rfl rfl ?_ | refine rSNe rfl rfl rfl ?_ | refine rSub8 rfl rfl rfl (by omega) ?_ | refine rAdd rfl rfl rfl (by omega) ?_ | refine rSub rfl rfl rfl (by omega) ?_ | refine rMul rfl rfl rfl (by omega) ?_ | refine rQuo rfl rfl rfl (by omega) ?_ | refine rRem rfl rfl rfl (by omega) ?_ | refine rQuo' rfl rfl rfl (by omega) ?_ | refine rRem' rfl rfl rfl (by omega) ?_ | refine rG (fun _ z => z) ?_) | (refine kO 4 rfl ?_; first | refine rSti rfl rfl rfl rfl rfl rfl (by first | omega | decide | exact Nat.le_of_ble_eq_true rfl | (dsimp only [SC.len]; omega) | (simp; done) | (simp; omega) | omega) ?_ | refine rG (fun _ z => z) ?_) | (refine kO 5 rfl ?_; first | refine rIdN rfl rfl rfl rfl rfl rfl rfl (by first | omega | decide | exact Nat.le_of_ble_eq_true rfl | (dsimp only [SC.len]; omega) | (simp; done) | (simp; omega) | omega) ?_ | refine rIdx rfl rfl rfl rfl rfl rfl rfl (by first | omega | decide | exact Nat.le_of_ble_eq_true rfl | (dsimp only [SC.len]; omega) | (simp; done) | (simp; omega) | omega) ?_ | refine rIdoN rfl rfl rfl rfl rfl rfl rfl rfl (by first | omega | decide | exact Nat.le_of_ble_eq_true rfl | (dsimp only [SC.len]; omega) | (simp; done) | (simp; omega) | omega) ?_ | refine rIdo rfl rfl rfl rfl rfl rfl rfl rfl (by first | omega | decide | exact Nat.le_of_ble_eq_true rfl | (dsimp only [SC.len]; omega) | (simp; done) | (simp; omega) | omega) ?_ | refine rIdvN rfl rfl rfl rfl rfl rfl (by first | assumption | rfl) rfl ?_) | (refine kO 8 rfl ?_; first | refine rSIdx rfl rfl rfl rfl rfl (by first | omega | (simp; omega) | (simp only [List.length_append, List.length_cons, List.length_nil]; omega) | decide) ?_ | refine rSSlB rfl rfl rfl rfl rfl rfl (by first | omega | (simp; omega) | (simp only [List.length_append, List.length_cons, List.length_nil]; omega) | decide) ?_ | refine rSSlL rfl rfl rfl rfl rfl (by first | omega | (simp; omega) | (simp only [List.length_append, List.length_cons, List.length_nil]; omega) | decide) ?_ | refine rSSlH rfl rfl rfl rfl rfl (by first | omega | (simp; omega) | (simp only [List.length_append, List.length_cons, List.length_nil]; omega) | decide) ?_ | refine rVSlH rfl rfl rfl rfl rfl rfl rfl (by first | omega | (simp; omega) | (simp only [List.length_append, List.length_cons, List.length_nil]; omega) | decide) ?_ | refine rVSlL rfl rfl rfl rfl rfl rfl rfl (by first | omega | (simp; omega) | (simp only [List.length_append, List.length_cons, List.length_nil]; omega) | decide) ?_ | refine rVOlH rfl rfl rfl rfl rfl rfl rfl rfl (by first | omega | (simp; omega) | (simp only [List.length_append, List.length_cons, List.length_nil]; omega) | decide) ?_ | refine rVOlL rfl rfl rfl rfl rfl rfl rfl rfl (by first | omega | (simp; omega) | (simp only [List.length_append, List.length_cons, List.length_nil]; omega) | decide) ?_ | refine rSlH rfl rfl rfl rfl rfl rfl rfl (by omega) ?_ | refine rSlL rfl rfl rfl rfl rfl rfl rfl (by omega) ?_ | refine rG (fun _ z => z) ?_) | (refine kO 6 rfl ?_; first | refine rSLen rfl rfl rfl rfl rfl rfl ?_ | refine rLen rfl rfl rfl rfl rfl rfl ?_ | refine rLenv rfl rfl rfl rfl rfl rfl ?_ | refine rLeno rfl rfl rfl rfl rfl rfl rfl ?_ | refine rLenov rfl rfl rfl rfl rfl rfl rfl ?_ | refine rG (fun _ z => z) ?_) | (refine kO 2 rfl ?_; first | refine rNeg rfl rfl (by omega) ?_ | refine rG (fun _ z => z) ?_) | refine rGX rfl trivial ?_ | refine rGX rfl (by (first | omega | decide | rfl | exact lnS (by omega) | exact lnN (by decide) | exact lnN (by omega) | exact lnC (by omega) | exact lvS (by omega) | exact lvN (by decide) | exact lvC (by omega) | exact uvS rfl | exact uvN rfl | ((try unfold SC.len); (try unfold SC.uni); (try unfold LIM); (try simp); (try omega); done) | omega)) ?_ | refine rG (fun _ z => ⟨(by (first | omega | decide | rfl | exact lnS (by omega) | exact lnN (by decide) | exact lnN (by omega) | exact lnC (by omega) | exact lvS (by omega) | exact lvN (by decide) | exact lvC (by omega) | exact uvS rfl | exact uvN rfl | ((try unfold SC.len); (try unfold SC.uni); (try unfold LIM); (try simp); (try omega); done) | omega)), z⟩) ?_ | refine rG (fun _ z => ⟨(by (first | omega | decide | rfl | exact lnS (by omega) | exact lnN (by decide) | exact lnN (by omega) | exact lnC (by omega) | exact lvS (by omega) | exact lvN (by decide) | exact lvC (by omega) | exact uvS rfl | exact uvN rfl | ((try unfold SC.len); (try unfold SC.uni); (try unfold LIM); (try simp); (try omega); done) | omega)), (by (first | omega | decide | rfl | exact lnS (by omega) | exact lnN (by decide) | exact lnN (by omega) | exact lnC (by omega) | exact lvS (by omega) | exact lvN (by decide) | exact lvC (by omega) | exact uvS rfl | exact uvN rfl | ((try unfold SC.len); (try unfold SC.uni); (try unfold LIM); (try simp); (try omega); done) | omega)), z⟩) ?_) | (refine dO ?_; first | refine oP rfl ?_ | refine oN ?_ | refine oY rfl rfl rfl ?_ | refine oZ rfl rfl rfl ?_ | refine oO rfl rfl rfl ?_ | refine oIt rfl rfl rfl (by omega) ?_ | refine oIf rfl rfl rfl (by omega) ?_ | refine oUt rfl rfl rfl (by omega) ?_ | refine oUf rfl rfl rfl (by omega) ?_) | (refine dA ?_; first | refine aS ?_ | refine aR ?_ | refine aC rfl ?_ | refine aK ?_ | refine aT ?_ | refine aB ?_ | refine aX ?_ | refine aL ?_ | refine aE ?_) | (refine dB ?_; first | refine bT ?_ | refine bF ?_ | refine bPt (by omega) ?_ | refine bPf (by omega) ?_) | refine dI (by kernel_rfl) ?_); (try conv => whnf))); (try exact zz.out); first | exact (Dum.mk : Dum True) | exact Dum.mk)) : p := h ⟨z⟩
theorem tS {p q : Prop} (z : q) (h : Hdn q → p := by (intro zz; refine hdn2 (q := _) zz ?_ ?_; (repeat1' ((first | (refine dR ?_; first | (refine kO 0 rfl ?_; first | (refine cvO rfl ?_; first | refine rConv rfl rfl rfl rfl rfl rfl (cvI (by omega)) ?_ | refine rConv rfl rfl rfl rfl rfl rfl (cv8 (by omega)) ?_) | refine rP rfl (fun _ z => z) ?_ | refine rGX rfl trivial ?_ | refine rGX rfl (by (first | omega | decide | rfl | exact lnS (by omega) | exact lnN (by decide) | exact lnN (by omega) | exact lnC (by omega) | exact lvS (by omega) | exact lvN (by decide) | exact lvC (by omega) | exact uvS rfl | exact uvN rfl | ((try unfold SC.len); (try unfold SC.uni); (try unfold LIM); (try simp); (try omega); done) | omega)) ?_ | refine rG (fun _ z => ⟨(by (first | omega | decide | rfl | exact lnS (by omega) | exact lnN (by decide) | exact lnN (by omega) | exact lnC (by omega) | exact lvS (by omega) | exact lvN (by decide) | exact lvC (by omega) | exact uvS rfl | exact uvN rfl | ((try unfold SC.len); (try unfold SC.uni); (try unfold LIM); (try simp); (try omega); done) | omega)), z⟩) ?_ | refine rG (fun _ z => ⟨(by (first | omega | decide | rfl | exact lnS (by omega) | exact lnN (by decide) | exact lnN (by omega) | exact lnC (by omega) | exact lvS (by omega) | exact lvN (by decide) | exact lvC (by omega) | exact uvS rfl | exact uvN rfl | ((try unfold SC.len); (try unfold SC.uni); (try unfold LIM); (try simp); (try omega); done) | omega)), (by (first | omega | decide | rfl | exact lnS (by omega) | exact lnN (by decide) | exact lnN (by omega) | exact lnC (by omega) | exact lvS (by omega) | exact lvN (by decide) | exact lvC (by omega) | exact uvS rfl | exact uvN rfl | ((try unfold SC.len); (try unfold SC.uni); (try unfold LIM); (try simp); (try omega); done) | omega)), z⟩) ?_) | (refine kO 3 rfl ?_; first | refine rLdv rfl rfl rfl rfl rfl rfl (by assumption) ?_ | refine rLdr rfl rfl rfl rfl rfl ?_ | refine rLdb rfl rfl rfl rfl rfl rfl rfl ?_ | refine rLdi rfl rfl rfl rfl rfl rfl (by first | omega | decide | exact Nat.le_of_ble_eq_true rfl | (dsimp only [SC.len]; omega) | (simp; done) | (simp; omega) | omega) ?_ | refine rG (fun _ z => z) ?_ | refine rG (fun _ z => ⟨_, rfl, z⟩) ?_ | refine rG (fun _ z => ⟨_, (by assumption), z⟩) ?_) | (refine kO 1 rfl ?_; first | refine rSCat rfl rfl rfl (by first | omega | (simp; omega) | (simp only [List.length_append, List.length_cons, List.length_nil]; omega) | decide) ?_ | refine rSEq rfl rfl rfl ?_ | refine rSNe rfl rfl rfl ?_ | refine rSub8 rfl rfl rfl (by omega) ?_ | refine rAdd rfl rfl rfl (by omega) ?_ | refine rSub rfl rfl rfl (by omega) ?_ | refine rMul rfl rfl rfl (by omega) ?_ | refine rQuo rfl rfl rfl (by omega) ?_ | refine rRem rfl rfl rfl (by omega) ?_ | refine rQuo' rfl rfl rfl (by omega) ?_ | refine rRem' rfl rfl rfl (by omega) ?_ | refine rG (fun _ z => z) ?_) | (refine kO 4 rfl ?_; first | refine rSti rfl rfl rfl rfl rfl rfl (by first | omega | decide | exact Nat.le_of_ble_eq_true rfl | (dsimp only [SC.len]; omega) | (simp; done) | (simp; omega) | omega) ?_ | refine rG (fun _ z => z) ?_) | (refine kO 5 rfl ?_; first | refine rIdN rfl rfl rfl rfl rfl rfl rfl (by first | omega | decide | exact Nat.le_of_ble_eq_true rfl | (dsimp only [SC.len]; omega) | (simp; done) | (simp; omega) | omega) ?_ | refine rIdx rfl rfl rfl rfl rfl rfl rfl (by first | omega | decide | exact Nat.le_of_ble_eq_true rfl | (dsimp only [SC.len]; omega) | (simp; done) | (simp; omega) | omega) ?_ | refine rIdoN rfl rfl rfl rfl rfl rfl rfl rfl (by first | omega | decide | exact Nat.le_of_ble_eq_true rfl | (dsimp only [SC.len]; omega) | (simp; done) | (simp; omega) | omega) ?_ | refine rIdo rfl rfl rfl rfl rfl rfl rfl rfl (by first | omega | decide | exact Nat.le_of_ble_eq_true rfl | (dsimp only [SC.len]; omega) | (simp; done) | (simp; omega) | omega) ?_ | refine rIdvN rfl rfl rfl rfl rfl rfl (by first | assumption | rfl) rfl ?_) | (refine kO 8 rfl ?_; first | refine rSIdx rfl rfl rfl rfl rfl (by first | omega | (simp; omega) | (simp only [List.length_append, List.length_cons, List.length_nil]; omega) | decide) ?_ | refine rSSlB rfl rfl rfl rfl rfl rfl (by first | omega | (simp; omega) | (simp only [List.length_append, List.length_cons, List.length_nil]; omega) | decide) ?_ | refine rSSlL rfl rfl rfl rfl rfl (by first | omega | (simp; omega) | (simp only [List.length_append, List.length_cons, List.length_nil]; omega) | decide) ?_ | refine rSSlH rfl rfl rfl rfl rfl (by first | omega | (simp; omega) | (simp only [List.length_append, List.length_cons, List.length_nil]; omega) | decide) ?_ | refine rVSlH rfl rfl rfl rfl rfl rfl rfl (by first | omega | (simp; omega) | (simp only [List.length_append, List.length_cons, List.length_nil]; omega) | decide) ?_ | refine rVSlL rfl rfl rfl rfl rfl rfl rfl (by first | omega | (simp; omega) | (simp only [List.length_append, List.length_cons, List.length_nil]; omega) | decide) ?_ | refine rVOlH rfl rfl rfl rfl rfl rfl rfl rfl (by first | omega | (simp; omega) | (simp only [List.length_append, List.length_cons, List.length_nil]; omega) | decide) ?_ | refine rVOlL rfl rfl rfl rfl rfl rfl rfl rfl (by first | omega | (simp; omega) | (simp only [List.length_append, List.length_cons, List.length_nil]; omega) | decide) ?_ | refine rSlH rfl rfl rfl rfl rfl rfl rfl (by omega) ?_ | refine rSlL rfl rfl rfl rfl rfl rfl rfl (by omega) ?_ | refine rG (fun _ z => z) ?_) | (refine kO 6 rfl ?_; first | refine rSLen rfl rfl rfl rfl rfl rfl ?_ | refine rLen rfl rfl rfl rfl rfl rfl ?_ | refine rLenv rfl rfl rfl rfl rfl rfl ?_ | refine rLeno rfl rfl rfl rfl rfl rfl rfl ?_ | refine rLenov rfl rfl rfl rfl rfl rfl rfl ?_ | refine rG (fun _ z => z) ?_) | (refine kO 2 rfl ?_; first | refine rNeg rfl rfl (by omega) ?_ | refine rG (fun _ z => z) ?_) | refine rGX rfl trivial ?_ | refine rGX rfl (by (first | omega | decide | rfl | exact lnS (by omega) | exact lnN (by decide) | exact lnN (by omega) | exact lnC (by omega) | exact lvS (by omega) | exact lvN (by decide) | exact lvC (by omega) | exact uvS rfl | exact uvN rfl | ((try unfold SC.len); (try unfold SC.uni); (try unfold LIM); (try simp); (try omega); done) | omega)) ?_ | refine rG (fun _ z => ⟨(by (first | omega | decide | rfl | exact lnS (by omega) | exact lnN (by decide) | exact lnN (by omega) | exact lnC (by omega) | exact lvS (by omega) | exact lvN (by decide) | exact lvC (by omega) | exact uvS rfl | exact uvN rfl | ((try unfold SC.len); (try unfold SC.uni); (try unfold LIM); (try simp); (try omega); done) | omega)), z⟩) ?_ | refine rG (fun _ z => ⟨(by (first | omega | decide | rfl | exact lnS (by omega) | exact lnN (by decide) | exact lnN (by omega) | exact lnC (by omega) | exact lvS (by omega) | exact lvN (by decide) | exact lvC (by omega) | exact uvS rfl | exact uvN rfl | ((try unfold SC.len); (try unfold SC.uni); (try unfold LIM); (try simp); (try omega); done) | omega)), (by (first | omega | decide | rfl | exact lnS (by omega) | exact lnN (by decide) | exact lnN (by omega) | exact lnC (by omega) | exact lvS (by omega) | exact lvN (by decide) | exact lvC (by omega) | exact uvS rfl | exact uvN rfl | ((try unfold SC.len); (try unfold SC.uni); (try unfold LIM); (try simp); (try omega); done) | omega)), z⟩) ?_) | (refine dO ?_; first | refine oP rfl ?_ | refine oN ?_ | refine oY rfl rfl rfl ?_ | refine oZ rfl rfl rfl ?_ | refine oO rfl rfl rfl ?_ | refine oIt rfl rfl rfl (by omega) ?_ | refine oIf rfl rfl rfl (by omega) ?_ | refine oUt rfl rfl rfl (by omega) ?_ | refine oUf rfl rfl rfl (by omega) ?_) | (refine dA ?_; first | refine aSs ?_ | refine aR ?_ | refine aC rfl ?_ | refine aK ?_ | refine aT ?_ | refine aB ?_ | refine aX ?_ | refine aL ?_ | refine aE ?_) | (refine dB ?_; first | refine bT ?_ | refine bF ?_ | refine bPt (by omega) ?_ | refine bPf (by omega) ?_) | refine dI (by kernel_rfl) ?_); (try conv => whnf))); (try exact zz.out); first | exact (Dum.mk : Dum True) | exact Dum.mk)) : p := h ⟨z⟩
theorem tR {p q : Prop} (z : q) (h : Hdn q → p := by (intro zz; refine hdn2 (q := _) zz ?_ ?_; (repeat1' ((first | (refine dR ?_; first | (refine kO 0 rfl ?_; first | (refine cvO rfl ?_; first | refine rConv rfl rfl rfl rfl rfl rfl (cvI (by omega)) ?_ | refine rConv rfl rfl rfl rfl rfl rfl (cv8 (by omega)) ?_) | refine rP rfl (fun _ z => z) ?_ | refine rGX rfl trivial ?_ | refine rGX rfl (by (first | omega | decide | rfl | exact lnS (by omega) | exact lnN (by decide) | exact lnN (by omega) | exact lnC (by omega) | exact lvS (by omega) | exact lvN (by decide) | exact lvC (by omega) | exact uvS rfl | exact uvN rfl | ((try unfold SC.len); (try unfold SC.uni); (try unfold LIM); (try simp); (try omega); done) | omega)) ?_ | refine rG (fun _ z => ⟨(by (first | omega | decide | rfl | exact lnS (by omega) | exact lnN (by decide) | exact lnN (by omega) | exact lnC (by omega) | exact lvS (by omega) | exact lvN (by decide) | exact lvC (by omega) | exact uvS rfl | exact uvN rfl | ((try unfold SC.len); (try unfold SC.uni); (try unfold LIM); (try simp); (try omega); done) | omega)), z⟩) ?_ | refine rG (fun _ z => ⟨(by (first | omega | decide | rfl | exact lnS (by omega) | exact lnN (by decide) | exact lnN (by omega) | exact lnC (by omega) | exact lvS (by omega) | exact lvN (by decide) | exact lvC (by omega) | exact uvS rfl | exact uvN rfl | ((try unfold SC.len); (try unfold SC.uni); (try unfold LIM); (try simp); (try omega); done) | omega)), (by (first | omega | decide | rfl | exact lnS (by omega) | exact lnN (by decide) | exact lnN (by omega) | exact lnC (by omega) | exact lvS (by omega) | exact lvN (by decide) | exact lvC (by omega) | exact uvS rfl | exact uvN rfl | ((try unfold SC.len); (try unfold SC.uni); (try unfold LIM); (try simp); (try omega); done) | omega)), z⟩) ?_) | (refine kO 3 rfl ?_; first | refine rLdv rfl rfl rfl rfl rfl rfl (by assumption) ?_ | refine rLdr rfl rfl rfl rfl rfl ?_ | refine rLdb rfl rfl rfl rfl rfl rfl rfl ?_ | refine rLdi rfl rfl rfl rfl rfl rfl (by first | omega | decide | exact Nat.le_of_ble_eq_true rfl | (dsimp only [SC.len]; omega) | (simp; done) | (simp; omega) | omega) ?_ | refine rG (fun _ z => z) ?_ | refine rG (fun _ z => ⟨_, rfl, z⟩) ?_ | refine rG (fun _ z => ⟨_, (by assumption), z⟩) ?_) | (refine kO 1 rfl ?_; first | refine rSCat rfl rfl rfl (by first | omega | (simp; omega) | (simp only [List.length_append, List.length_cons, List.length_nil]; omega) | decide) ?_ | refine rSEq rfl rfl rfl ?_ | refine rSNe rfl rfl rfl ?_ | refine rSub8 rfl rfl rfl (by omega) ?_ | refine rAdd rfl rfl rfl (by omega) ?_ | refine rSub rfl rfl rfl (by omega) ?_ | refine rMul rfl rfl rfl (by omega) ?_ | refine rQuo rfl rfl rfl (by omega) ?_ | refine rRem rfl rfl rfl (by omega) ?_ | refine rQuo' rfl rfl rfl (by omega) ?_ | refine rRem' rfl rfl rfl (by omega) ?_ | refine rG (fun _ z => z) ?_) | (refine kO 4 rfl ?_; first | refine rSti rfl rfl rfl rfl rfl rfl (by first | omega | decide | exact Nat.le_of_ble_eq_true rfl | (dsimp only [SC.len]; omega) | (simp; done) | (simp; omega) | omega) ?_ | refine rG (fun _ z => z) ?_) | (refine kO 5 rfl ?_; first | refine rIdN rfl rfl rfl rfl rfl rfl rfl (by first | omega | decide | exact Nat.le_of_ble_eq_true rfl | (dsimp only [SC.len]; omega) | (simp; done) | (simp; omega) | omega) ?_ | refine rIdx rfl rfl rfl rfl rfl rfl rfl (by first | omega | decide | exact Nat.le_of_ble_eq_true rfl | (dsimp only [SC.len]; omega) | (simp; done) | (simp; omega) | omega) ?_ | refine rIdoN rfl rfl rfl rfl rfl rfl rfl rfl (by first | omega | decide | exact Nat.le_of_ble_eq_true rfl | (dsimp only [SC.len]; omega) | (simp; done) | (simp; omega) | omega) ?_ | refine rIdo rfl rfl rfl rfl rfl rfl rfl rfl (by first | omega | decide | exact Nat.le_of_ble_eq_true rfl | (dsimp only [SC.len]; omega) | (simp; done) | (simp; omega) | omega) ?_ | refine rIdvN rfl rfl rfl rfl rfl rfl (by first | assumption | rfl) rfl ?_) | (refine kO 8 rfl ?_; first | refine rSIdx rfl rfl rfl rfl rfl (by first | omega | (simp; omega) | (simp only [List.length_append, List.length_cons, List.length_nil]; omega) | decide) ?_ | refine rSSlB rfl rfl rfl rfl rfl rfl (by first | omega | (simp; omega) | (simp only [List.length_append, List.length_cons, List.length_nil]; omega) | decide) ?_ | refine rSSlL rfl rfl rfl rfl rfl (by first | omega | (simp; omega) | (simp only [List.length_append, List.length_cons, List.length_nil]; omega) | decide) ?_ | refine rSSlH rfl rfl rfl rfl rfl (by first | omega | (simp; omega) | (simp only [List.length_append, List.length_cons, List.length_nil]; omega) | decide) ?_ | refine rVSlH rfl rfl rfl rfl rfl rfl rfl (by first | omega | (simp; omega) | (simp only [List.length_append, List.length_cons, List.length_nil]; omega) | decide) ?_ | refine rVSlL rfl rfl rfl rfl rfl rfl rfl (by first | omega | (simp; omega) | (simp only [List.length_append, List.length_cons, List.length_nil]; omega) | decide) ?_ | refine rVOlH rfl rfl rfl rfl rfl rfl rfl rfl (by first | omega | (simp; omega) | (simp only [List.length_append, List.length_cons, List.length_nil]; omega) | decide) ?_ | refine rVOlL rfl rfl rfl rfl rfl rfl rfl rfl (by first | omega | (simp; omega) | (simp only [List.length_append, List.length_cons, List.length_nil]; omega) | decide) ?_ | refine rSlH rfl rfl rfl rfl rfl rfl rfl (by omega) ?_ | refine rSlL rfl rfl rfl rfl rfl rfl rfl (by omega) ?_ | refine rG (fun _ z => z) ?_) | (refine kO 6 rfl ?_; first | refine rSLen rfl rfl rfl rfl rfl rfl ?_ | refine rLen rfl rfl rfl rfl rfl rfl ?_ | refine rLenv rfl rfl rfl rfl rfl rfl ?_ | refine rLeno rfl rfl rfl rfl rfl rfl rfl ?_ | refine rLenov rfl rfl rfl rfl rfl rfl rfl ?_ | refine rG (fun _ z => z) ?_) | (refine kO 2 rfl ?_; first | refine rNeg rfl rfl (by omega) ?_ | refine rG (fun _ z => z) ?_) | refine rGX rfl trivial ?_ | refine rGX rfl (by (first | omega | decide | rfl | exact lnS (by omega) | exact lnN (by decide) | exact lnN (by omega) | exact lnC (by omega) | exact lvS (by omega) | exact lvN (by decide) | exact lvC (by omega) | exact uvS rfl | exact uvN rfl | ((try unfold SC.len); (try unfold SC.uni); (try unfold LIM); (try simp); (try omega); done) | omega)) ?_ | refine rG (fun _ z => ⟨(by (first | omega | decide | rfl | exact lnS (by omega) | exact lnN (by decide) | exact lnN (by omega) | exact lnC (by omega) | exact lvS (by omega) | exact lvN (by decide) | exact lvC (by omega) | exact uvS rfl | exact uvN rfl | ((try unfold SC.len); (try unfold SC.uni); (try unfold LIM); (try simp); (try omega); done) | omega)), z⟩) ?_ | refine rG (fun _ z => ⟨(by (first | omega | decide | rfl | exact lnS (by omega) | exact lnN (by decide) | exact lnN (by omega) | exact lnC (by omega) | exact lvS (by omega) | exact lvN (by decide) | exact lvC (by omega) | exact uvS rfl | exact uvN rfl | ((try unfold SC.len); (try unfold SC.uni); (try unfold LIM); (try simp); (try omega); done) | omega)), (by (first | omega | decide | rfl | exact lnS (by omega) | exact lnN (by decide) | exact lnN (by omega) | exact lnC (by omega) | exact lvS (by omega) | exact lvN (by decide) | exact lvC (by omega) | exact uvS rfl | exact uvN rfl | ((try unfold SC.len); (try unfold SC.uni); (try unfold LIM); (try simp); (try omega); done) | omega)), z⟩) ?_) | (refine dO ?_; first | refine oP rfl ?_ | refine oN ?_ | refine oY rfl rfl rfl ?_ | refine oZ rfl rfl rfl ?_ | refine oO rfl rfl rfl ?_ | refine oIt rfl rfl rfl (by omega) ?_ | refine oIf rfl rfl rfl (by omega) ?_ | refine oUt rfl rfl rfl (by omega) ?_ | refine oUf rfl rfl rfl (by omega) ?_) | (refine dB ?_; first | refine bT ?_ | refine bF ?_ | refine bPt (by omega) ?_ | refine bPf (by omega) ?_) | refine dI (by kernel_rfl) ?_); (try conv => whnf))); (try exact zz.out); first | exact (Dum.mk : Dum True) | exact Dum.mk)) : p := h ⟨z⟩
theorem tC {p q : Prop} (z : q) (h : Hdn q → p := by (intro zz; refine hdn2 (q := _) zz ?_ ?_; (repeat1' ((first | (refine dR ?_; first | (refine kO 0 rfl ?_; first | (refine cvO rfl ?_; first | refine rConv rfl rfl rfl rfl rfl rfl (cvI (by omega)) ?_ | refine rConv rfl rfl rfl rfl rfl rfl (cv8 (by omega)) ?_) | refine rClo rfl rfl rfl ?_ | refine rP rfl (fun _ z => z) ?_ | refine rGX rfl trivial ?_ | refine rGX rfl (by (first | omega | decide | rfl | exact lnS (by omega) | exact lnN (by decide) | exact lnN (by omega) | exact lnC (by omega) | exact lvS (by omega) | exact lvN (by decide) | exact lvC (by omega) | exact uvS rfl | exact uvN rfl | ((try unfold SC.len); (try unfold SC.uni); (try unfold LIM); (try simp); (try omega); done) | omega)) ?_ | refine rG (fun _ z => ⟨(by (first | omega | decide | rfl | exact lnS (by omega) | exact lnN (by decide) | exact lnN (by omega) | exact lnC (by omega) | exact lvS (by omega) | exact lvN (by decide) | exact lvC (by omega) | exact uvS rfl | exact uvN rfl | ((try unfold SC.len); (try unfold SC.uni); (try unfold LIM); (try simp); (try omega); done) | omega)), z⟩) ?_ | refine rG (fun _ z => ⟨(by (first | omega | decide | rfl | exact lnS (by omega) | exact lnN (by decide) | exact lnN (by omega) | exact lnC (by omega) | exact lvS (by omega) | exact lvN (by decide) | exact lvC (by omega) | exact uvS rfl | exact uvN rfl | ((try unfold SC.len); (try unfold SC.uni); (try unfold LIM); (try simp); (try omega); done) | omega)), (by (first | omega | decide | rfl | exact lnS (by omega) | exact lnN (by decide) | exact lnN (by omega) | exact lnC (by omega) | exact lvS (by omega) | exact lvN (by decide) | exact lvC (by omega) | exact uvS rfl | exact uvN rfl | ((try unfold SC.len); (try unfold SC.uni); (try unfold LIM); (try simp); (try omega); done) | omega)), z⟩) ?_) | (refine kO 3 rfl ?_; first | refine rLdv rfl rfl rfl rfl rfl rfl (by assumption) ?_ | refine rLdr rfl rfl rfl rfl rfl ?_ | refine rLdb rfl rfl rfl rfl rfl rfl rfl ?_ | refine rLdi rfl rfl rfl rfl rfl rfl (by first | omega | decide | exact Nat.le_of_ble_eq_true rfl | (dsimp only [SC.len]; omega) | (simp; done) | (simp; omega) | omega) ?_ | refine rG (fun _ z => z) ?_ | refine rG (fun _ z => ⟨_, rfl, z⟩) ?_ | refine rG (fun _ z => ⟨_, (by assumption), z⟩) ?_) | (refine kO 1 rfl ?_; first | refine rSCat rfl rfl rfl (by first | omega | (simp; omega) | (simp only [List.length_append, List.length_cons, List.length_nil]; omega) | decide) ?_ | refine rSEq rfl rfl rfl ?_ | refine rSNe rfl rfl rfl ?_ | refine rSub8 rfl rfl rfl (by omega) ?_ | refine rAdd rfl rfl rfl (by omega) ?_ | refine rSub rfl rfl rfl (by omega) ?_ | refine rMul rfl rfl rfl (by omega) ?_ | refine rQuo rfl rfl rfl (by omega) ?_ | refine rRem rfl rfl rfl (by omega) ?_ | refine rQuo' rfl rfl rfl (by omega) ?_ | refine rRem' rfl rfl rfl (by omega) ?_ | refine rG (fun _ z => z) ?_) | (refine kO 4 rfl ?_; first | refine rSti rfl rfl rfl rfl rfl rfl (by first | omega | decide | exact Nat.le_of_ble_eq_true rfl | (dsimp only [SC.len]; omega) | (simp; done) | (simp; omega) | omega) ?_ | refine rG (fun _ z => z) ?_) | (refine kO 5 rfl ?_; first | refine rIdN rfl rfl rfl rfl rfl rfl rfl (by first | omega | decide | exact Nat.le_of_ble_eq_true rfl | (dsimp only [SC.len]; omega) | (simp; done) | (simp; omega) | omega) ?_ | refine rIdx rfl rfl rfl rfl rfl rfl rfl (by first | omega | decide | exact Nat.le_of_ble_eq_true rfl | (dsimp only [SC.len]; omega) | (simp; done) | (simp; omega) | omega) ?_ | refine rIdoN rfl rfl rfl rfl rfl rfl rfl rfl (by first | omega | decide | exact Nat.le_of_ble_eq_true rfl | (dsimp only [SC.len]; omega) | (simp; done) | (simp; omega) | omega) ?_ | refine rIdo rfl rfl rfl rfl rfl rfl rfl rfl (by first | omega | decide | exact Nat.le_of_ble_eq_true rfl | (dsimp only [SC.len]; omega) | (simp; done) | (simp; omega) | omega) ?_ | refine rIdvN rfl rfl rfl rfl rfl rfl (by first | assumption | rfl) rfl ?_) | (refine kO 8 rfl ?_; first | refine rSIdx rfl rfl rfl rfl rfl (by first | omega | (simp; omega) | (simp only [List.length_append, List.length_cons, List.length_nil]; omega) | decide) ?_ | refine rSSlB rfl rfl rfl rfl rfl rfl (by first | omega | (simp; omega) | (simp only [List.length_append, List.length_cons, List.length_nil]; omega) | decide) ?_ | refine rSSlL rfl rfl rfl rfl rfl (by first | omega | (simp; omega) | (simp only [List.length_append, List.length_cons, List.length_nil]; omega) | decide) ?_ | refine rSSlH rfl rfl rfl rfl rfl (by first | omega | (simp; omega) | (simp only [List.length_append, List.length_cons, List.length_nil]; omega) | decide) ?_ | refine rVSlH rfl rfl rfl rfl rfl rfl rfl (by first | omega | (simp; omega) | (simp only [List.length_append, List.length_cons, List.length_nil]; omega) | decide) ?_ | refine rVSlL rfl rfl rfl rfl rfl rfl rfl (by first | omega | (simp; omega) | (simp only [List.length_append, List.length_cons, List.length_nil]; omega) | decide) ?_ | refine rVOlH rfl rfl rfl rfl rfl rfl rfl rfl (by first | omega | (simp; omega) | (simp only [List.length_append, List.length_cons, List.length_nil]; omega) | decide) ?_ | refine rVOlL rfl rfl rfl rfl rfl rfl rfl rfl (by first | omega | (simp; omega) | (simp only [List.length_append, List.length_cons, List.length_nil]; omega) | decide) ?_ | refine rSlH rfl rfl rfl rfl rfl rfl rfl (by omega) ?_ | refine rSlL rfl rfl rfl rfl rfl rfl rfl (by omega) ?_ | refine rG (fun _ z => z) ?_) | (refine kO 6 rfl ?_; first | refine rSLen rfl rfl rfl rfl rfl rfl ?_ | refine rLen rfl rfl rfl rfl rfl rfl ?_ | refine rLenv rfl rfl rfl rfl rfl rfl ?_ | refine rLeno rfl rfl rfl rfl rfl rfl rfl ?_ | refine rLenov rfl rfl rfl rfl rfl rfl rfl ?_ | refine rG (fun _ z => z) ?_) | (refine kO 2 rfl ?_; first | refine rNeg rfl rfl (by omega) ?_ | refine rG (fun _ z => z) ?_) | refine rGX rfl trivial ?_ | refine rGX rfl (by (first | omega | decide | rfl | exact lnS (by omega) | exact lnN (by decide) | exact lnN (by omega) | exact lnC (by omega) | exact lvS (by omega) | exact lvN (by decide) | exact lvC (by omega) | exact uvS rfl | exact uvN rfl | ((try unfold SC.len); (try unfold SC.uni); (try unfold LIM); (try simp); (try omega); done) | omega)) ?_ | refine rG (fun _ z => ⟨(by (first | omega | decide | rfl | exact lnS (by omega) | exact lnN (by decide) | exact lnN (by omega) | exact lnC (by omega) | exact lvS (by omega) | exact lvN (by decide) | exact lvC (by omega) | exact uvS rfl | exact uvN rfl | ((try unfold SC.len); (try unfold SC.uni); (try unfold LIM); (try simp); (try omega); done) | omega)), z⟩) ?_ | refine rG (fun _ z => ⟨(by (first | omega | decide | rfl | exact lnS (by omega) | exact lnN (by decide) | exact lnN (by omega) | exact lnC (by omega) | exact lvS (by omega) | exact lvN (by decide) | exact lvC (by omega) | exact uvS rfl | exact uvN rfl | ((try unfold SC.len); (try unfold SC.uni); (try unfold LIM); (try simp); (try omega); done) | omega)), (by (first | omega | decide | rfl | exact lnS (by omega) | exact lnN (by decide) | exact lnN (by omega) | exact lnC (by omega) | exact lvS (by omega) | exact lvN (by decide) | exact lvC (by omega) | exact uvS rfl | exact uvN rfl | ((try unfold SC.len); (try unfold SC.uni); (try unfold LIM); (try simp); (try omega); done) | omega)), z⟩) ?_) | (refine dO ?_; first | refine oP rfl ?_ | refine oN ?_ | refine oY rfl rfl rfl ?_ | refine oZ rfl rfl rfl ?_ | refine oO rfl rfl rfl ?_ | refine oIt rfl rfl rfl (by omega) ?_ | refine oIf rfl rfl rfl (by omega) ?_ | refine oUt rfl rfl rfl (by omega) ?_ | refine oUf rfl rfl rfl (by omega) ?_) | (refine dA ?_; first | refine aS ?_ | refine aR ?_ | refine aC rfl ?_ | refine aK ?_ | refine aT ?_ | refine aB ?_ | refine aX ?_ | refine aL ?_ | refine aE ?_) | (refine dB ?_; first | refine bT ?_ | refine bF ?_ | refine bPt (by omega) ?_ | refine bPf (by omega) ?_) | refine dI (by kernel_rfl) ?_); (try conv => whnf))); (try exact zz.out); first | exact (Dum.mk : Dum True) | exact Dum.mk)) : p := h ⟨z⟩
theorem tB {p q : Prop} (z : q) (h : Hdn q → p := by (intro zz; refine hdn2 (q := _) zz ?_ ?_; (repeat1' ((first | (refine dA ?_; first | refine aC rfl ?_ | refine aK ?_ | refine aT ?_ | refine aB ?_ | refine aX ?_ | refine aL ?_ | refine aE ?_) | (refine dB ?_; first | refine bT ?_ | refine bF ?_ | refine bPt (by omega) ?_ | refine bPf (by omega) ?_)); (try conv => whnf))); (try exact zz.out); first | exact (Dum.mk : Dum True) | exact Dum.mk)) : p := h ⟨z⟩
end Go.Fw
