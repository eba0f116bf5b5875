/- Framework, strings: their bytes as lists; clean steps. Program independent. -/
import Derived.Test.YtggfcjiahhjcnabGreatDoorFc
import Derived.Lib.Strings
import Derived.Shelf.Slices.Reverse
import Derived.Shelf.Slices.Clone
import Derived.Shelf.Spec.SlicesGrow
import Derived.Shelf.Strconv.Itoa3
import Derived.Shelf.Strconv.AtoiAll
import Derived.Shelf.Strings.Split
import Derived.Shelf.Strings.OnBuilder
import Derived.Shelf.Strings.Prefix
import Derived.Lib.AppendIntMem
import Derived.Lib.SmallJoins
import Derived.Shelf.Strings.Cut
namespace Go.Fw
open Go.RowKit (Below)

/-- A string, by its bytes. -/
def B (l : List UInt8) : ByteArray := ⟨l.toArray⟩
abbrev lS (l : List UInt8) : Option DV := some (lit (.string (B l)))

theorem B_data (l : List UInt8) : (B l).data.toList = l := by simp [B]
theorem B_size (l : List UInt8) : (B l).size = l.length := by rw [Lib.size_eq, B_data]
theorem B_of (s : ByteArray) : B s.data.toList = s := Lib.mk_data s
theorem B_inj {a b : List UInt8} (h : B a = B b) : a = b := by rw [← B_data a, h, B_data]
theorem B_cat (a b : List UInt8) : B a ++ B b = B (a ++ b) := by
  rw [← B_of (B a ++ B b)]
  exact congrArg B (by simp [B])
theorem B_list (l : List UInt8) : (B l).toList = l := by rw [Lib.toList_data, B_data]
theorem B_get (l : List UInt8) (i : Nat) : (B l)[i]? = l[i]? := by
  have : (B l)[i]? = (B l).data[i]? := by
    simp only [getElem?_def]
    rfl
  rw [this]; simp [B]
theorem B_ext (l : List UInt8) (a b : Nat) : (B l).extract a b = B ((l.take b).drop a) := by
  rw [Lib.extract_eq, B_data]
  show (⟨_⟩ : ByteArray) = ⟨_⟩
  congr 2
  rw [List.drop_take]

section
variable {C : Ctx} {fid : Nat} {o : Oper} {E : Env} {H : Hp} {t : Trace} {k : Env → Hp → Trace → Prop} {T : TypeId} {x y : Operand} {p : TypeId} {a b : List UInt8}

theorem opA_str {op : BinOp} (ho : o.op = .binOp op T x y p) (hx : C.ev E.get x = lS a) (hy : C.ev E.get y = lS b) : opA C fid o (C.ev E.get) H.get = fun K => strBin op (B a) (B b) fun v => K (lit v) [] [] := by
  funext K
  unfold opA
  rw [ho]
  simp only [hx, hy, binA]
  unfold litBin
  cases op <;> rfl

theorem rSCat (ho : o.op = .binOp .add T x y p) (hx : C.ev E.get x = lS a) (hy : C.ev E.get y = lS b) (hb : a.length + b.length ≤ 1000000000000)
    (h2 : putK o.dst (lit (.string (B (a ++ b)))) E fun E' => k E' H (([], []) :: t)) : RunO C fid o E H t k := by
  refine rG (r := lit (.string (B (a ++ b)))) (u := []) (R := []) (fun K hK => ?_) h2
  rw [opA_str ho hx hy]
  exact ⟨by rw [B_size, B_size]; omega, by rw [B_cat]; exact hK⟩
theorem rSEq (ho : o.op = .binOp .eql T x y p) (hx : C.ev E.get x = lS a) (hy : C.ev E.get y = lS b)
    (h2 : putK o.dst (lit (.bool (decide (a = b)))) E fun E' => k E' H (([], []) :: t)) : RunO C fid o E H t k := by
  refine rG (r := lit (.bool (decide (a = b)))) (u := []) (R := []) (fun K hK => ?_) h2
  rw [opA_str ho hx hy]
  show K (lit (.bool ((B a).toList == (B b).toList))) [] []
  rw [B_list, B_list, show (a == b) = decide (a = b) by rw [Bool.eq_iff_iff]; simp]
  exact hK
theorem rSNe (ho : o.op = .binOp .neq T x y p) (hx : C.ev E.get x = lS a) (hy : C.ev E.get y = lS b)
    (h2 : putK o.dst (lit (.bool (!decide (a = b)))) E fun E' => k E' H (([], []) :: t)) : RunO C fid o E H t k := by
  refine rG (r := lit (.bool (!decide (a = b)))) (u := []) (R := []) (fun K hK => ?_) h2
  rw [opA_str ho hx hy]
  show K (lit (.bool !((B a).toList == (B b).toList))) [] []
  rw [B_list, B_list, show (a == b) = decide (a = b) by rw [Bool.eq_iff_iff]; simp]
  exact hK
theorem rSLen {c : Call} {i : TI} {tt : TypeId} {ts : List TypeId} (ho : o.op = .call c) (hc : c.callee = .builtin .len) (ha : c.argTypes.toList = tt :: ts) (hx : (c.args.toList.map (C.ev E.get)) = [lS a]) (hi : C.ti tt = some i) (hcl : i.cls = .str)
    (h2 : putK o.dst (lit (.int .i64 (a.length : Nat))) E fun E' => k E' H (([], []) :: t)) : RunO C fid o E H t k := by
  refine rG (r := lit (.int .i64 (a.length : Nat))) (u := []) (R := []) (fun K hK => ?_) h2
  unfold opA
  rw [ho]
  have hx' : (c.args.toList.map (C.ev E.get)) = [some (.val (false, [.st (.lit (.string (B a)))]))] := hx
  simp only [hc, ha, hx']
  unfold builtinA
  simp only [hi, hcl]
  show K (lit (.int .i64 ((B a).size : Nat))) [] []
  rw [B_size]; exact hK
theorem rSIdx {i : TI} {zz : Int} {n : Nat} {k' : IntKind} [nz : NatOf zz n] (ho : o.op = .index T x y) (hx : C.ev E.get x = lS a) (hy : C.ev E.get y = some (lit (.int k' zz))) (hi : C.ti T = some i) (hcl : i.cls = .str) (hb : 0 ≤ zz ∧ n < a.length)
    (h2 : putK o.dst (lit (.int .u8 ((a.getD n 0).toNat : Nat))) E fun E' => k E' H (([], []) :: t)) : RunO C fid o E H t k := by
  refine rG (r := lit (.int .u8 ((a.getD n 0).toNat : Nat))) (u := []) (R := []) (fun K hK => ?_) h2
  unfold opA
  rw [ho]
  simp only [hx, hy]
  simp only [indexA, hi, hcl]
  refine ⟨hb.1, a.getD n 0, ?_, hK⟩
  have e : zz.toNat = n := by rw [nz.eq]; simp
  rw [e, B_get, List.getD_eq_getElem?_getD, List.getElem?_eq_getElem hb.2]
  rfl
theorem rSSlL {i : TI} {zz : Int} {n : Nat} {k' : IntKind} [nz : NatOf zz n] (ho : o.op = .slice T x (some y) none none) (hx : C.ev E.get x = lS a) (hy : C.ev E.get y = some (lit (.int k' zz))) (hi : C.ti T = some i) (hcl : i.cls = .str) (hb : 0 ≤ zz ∧ n ≤ a.length)
    (h2 : putK o.dst (lit (.string (B (a.drop n)))) E fun E' => k E' H (([], []) :: t)) : RunO C fid o E H t k := by
  refine rG (r := lit (.string (B (a.drop n)))) (u := []) (R := []) (fun K hK => ?_) h2
  have e : zz.toNat = n := by rw [nz.eq]; simp
  unfold opA
  rw [ho]
  simp only [hx, Option.map_some, hy, Option.map_none]
  simp only [sliceA, hi, hcl, bnd]
  refine ⟨hb.1, ⟨by rw [B_size, e]; exact hb.2, Nat.le_refl _⟩, ?_⟩
  rw [e, B_size, B_ext, List.take_length]
  exact hK
theorem rSSlH {i : TI} {zz : Int} {n : Nat} {k' : IntKind} [nz : NatOf zz n] (ho : o.op = .slice T x none (some y) none) (hx : C.ev E.get x = lS a) (hy : C.ev E.get y = some (lit (.int k' zz))) (hi : C.ti T = some i) (hcl : i.cls = .str) (hb : 0 ≤ zz ∧ n ≤ a.length)
    (h2 : putK o.dst (lit (.string (B (a.take n)))) E fun E' => k E' H (([], []) :: t)) : RunO C fid o E H t k := by
  refine rG (r := lit (.string (B (a.take n)))) (u := []) (R := []) (fun K hK => ?_) h2
  have e : zz.toNat = n := by rw [nz.eq]; simp
  unfold opA
  rw [ho]
  simp only [hx, Option.map_some, hy, Option.map_none]
  simp only [sliceA, hi, hcl, bnd]
  refine ⟨hb.1, ⟨Nat.zero_le _, by rw [B_size, e]; exact hb.2⟩, ?_⟩
  rw [e, B_ext, List.drop_zero]
  exact hK
theorem rSSlB {i : TI} {zz yy : Int} {n m : Nat} {k' k'' : IntKind} {z : Operand} [nz : NatOf zz n] [ny : NatOf yy m] (ho : o.op = .slice T x (some y) (some z) none) (hx : C.ev E.get x = lS a) (hy : C.ev E.get y = some (lit (.int k' zz))) (hz : C.ev E.get z = some (lit (.int k'' yy))) (hi : C.ti T = some i) (hcl : i.cls = .str) (hb : (0 ≤ zz ∧ 0 ≤ yy) ∧ n ≤ m ∧ m ≤ a.length)
    (h2 : putK o.dst (lit (.string (B ((a.take m).drop n)))) E fun E' => k E' H (([], []) :: t)) : RunO C fid o E H t k := by
  refine rG (r := lit (.string (B ((a.take m).drop n)))) (u := []) (R := []) (fun K hK => ?_) h2
  have e : zz.toNat = n := by rw [nz.eq]; simp
  have e' : yy.toNat = m := by rw [ny.eq]; simp
  unfold opA
  rw [ho]
  simp only [hx, Option.map_some, hy, hz]
  simp only [sliceA, hi, hcl, bnd]
  refine ⟨hb.1.1, hb.1.2, ⟨by rw [e, e']; exact hb.2.1, by rw [B_size, e']; exact hb.2.2⟩, ?_⟩
  rw [e, e', B_ext]
  exact hK
end

/-! ### Bytes and conversions -/
section
variable {C : Ctx} {fid : Nat} {o : Oper} {E : Env} {H : Hp} {t : Trace} {k : Env → Hp → Trace → Prop} {T : TypeId} {x y : Operand} {p : TypeId}

theorem rSub8 {a b : Int} (ho : o.op = .binOp .sub T x y p) (hx : C.ev E.get x = some (lit (.int .u8 a))) (hy : C.ev E.get y = some (lit (.int .u8 b))) (hb : 0 ≤ a - b ∧ a - b ≤ 255)
    (h2 : putK o.dst (lit (.int .u8 (a - b))) E fun E' => k E' H (([], []) :: t)) : RunO C fid o E H t k := by
  refine rG (r := lit (.int .u8 (a - b))) (u := []) (R := []) (fun K hK => ?_) h2
  have e : IntKind.u8.wrap (a - b) = a - b := by rw [IntKind.wrap_u8]; omega
  unfold opA
  rw [ho]
  simp only [hx, hy, lit, binA]
  show K (lit (.int .u8 (IntKind.u8.wrap (a - b)))) [] []
  rw [e]; exact hK
/-- A number converted, none of it cut off. -/
theorem rConv {i j : TI} {kd ks k' : IntKind} {n : Int} {S : TypeId} (ho : o.op = .convert S T x) (hx : C.ev E.get x = some (lit (.int k' n))) (hi : C.ti S = some i) (hj : C.ti T = some j) (hs : i.cls = .int ks) (hd : j.cls = .int kd) (hb : kd.wrap n = n)
    (h2 : putK o.dst (lit (.int kd n)) E fun E' => k E' H (([], []) :: t)) : RunO C fid o E H t k := by
  refine rG (r := lit (.int kd n)) (u := []) (R := []) (fun K hK => ?_) h2
  unfold opA
  rw [ho]
  simp only [hx, lit]
  unfold convA
  simp only [hi, hj, hs, hd]
  rw [hb]; exact hK
theorem cvI {n : Int} (h : -9223372036854775808 ≤ n ∧ n ≤ 9223372036854775807) : IntKind.i64.wrap n = n := IntWalk.i64_in n h
theorem cv8 {n : Int} (h : 0 ≤ n ∧ n ≤ 255) : IntKind.u8.wrap n = n := by rw [IntKind.wrap_u8]; omega
end
end Go.Fw

/- Framework, part sa: contracts of the library's slices functions, out of the kit's. Program independent. -/
namespace Go.Fw
open Go.RowKit (Below)
open Go.Shelf
variable {P : Program} {gl : Glob}

/-- What a value that reads as a list of ints is. -/
theorem rep_ints {mv mr : Mem} {v : Value} {xs : List Int} (h : Rep mv mr v (.ints xs)) : (xs = [] ∧ ∃ a cap, v = .slice a 0 cap) ∨
    ∃ b o cap, v = .slice (some ⟨b, o, none⟩) xs.length cap ∧ xs.length ≤ cap ∧ 0 < xs.length ∧ ∀ j, j < xs.length → mv b (o + j) = some (.int .i64 (xs.getD j 0)) := by
  cases h with
  | empty a cap hv h0 => exact .inl ⟨List.length_eq_zero_iff.1 h0, a, cap, rfl⟩
  | view b o cap z f hv hpos hz hcap hl hc hr =>
    have hpos : 0 < xs.length := hpos
    obtain ⟨e0, he0⟩ := SC.elem_of_lt (c := .ints xs) hpos
    have hz1 : z = 1 := by
      rw [← hl 0 e0 he0]
      simp [SC.elem] at he0
      obtain ⟨a, _, rfl⟩ := he0
      rfl
    subst hz1
    refine .inr ⟨b, o, cap, rfl, hcap, hpos, fun j hj => ?_⟩
    have h1 := hc j (by simpa [SC.len] using hj)
    have h2 := hr j [.lit (.int .i64 (xs.getD j 0))] 0 (.lit (.int .i64 (xs.getD j 0))) (by simp [SC.elem, List.getElem?_eq_getElem hj, List.getD_eq_getElem?_getD]) rfl
    rw [h1]
    simp only [Nat.mul_one, Nat.add_zero] at h2
    rw [rep_lit h2]

theorem repL_one {mv mr : Mem} {vs : Array Value} {c : SC} (h : RepL mv mr vs [(false, [c])]) : ∃ v, vs = #[v] ∧ Rep mv mr v c := by
  obtain ⟨h1, h2⟩ := h
  obtain ⟨c', e, hr⟩ := h2 0 _ rfl
  simp at e
  subst e
  refine ⟨vs.getD 0 undef, ?_, hr⟩
  have h1 : vs.size = 1 := h1
  apply Array.ext
  · simp [h1]
  · intro i hi _
    obtain rfl : i = 0 := by omega
    simp [Array.getD_eq_getD_getElem?, h1]

theorem below_ahead (w : World) (n : Nat) : Below w.heap.size w (Sort.ahead w n) := ⟨rfl, rfl, rfl, Nat.le_refl _, fun _ _ => rfl⟩

theorem putRow_setRow {enc : Int → Value} {w : World} {b : Nat} {arr : Array Value} {T : TypeId} (h : w.heap[b]? = some (.cells arr T)) (d : Array Int) : Sort.putRow enc w b 0 d = w.setRow b (Sort.putCells enc 0 d arr) := by
  have hlt : b < w.heap.size := (Array.getElem?_eq_some_iff.1 h).1
  have hv : w.heap[b] = .cells arr T := (Array.getElem?_eq_some_iff.1 h).2
  unfold Sort.putRow Sort.mapBlock World.setRow
  congr 1
  apply Array.ext
  · simp
  · intro i h1 h2
    simp only [Array.getElem_modify]
    by_cases hi : b = i
    · subst hi
      simp only [if_true, hv, Sort.onCells]
    · simp only [hi, if_false]

/-- slices.Reverse. -/
theorem reverse_upd {ρ : Ren} (L : Proofs.Lays.n112 P ρ) (hok : fnOk P (ρ.f 112) = true) (xs : List Int) (hl : xs.length ≤ 9223372036854775807) : Sat P gl (ρ.f 112) [(false, [.ints xs])] (.upd 1 (.ints xs.reverse)) := by
  refine .inr ⟨.ints xs, rfl, hok, rfl, by simp [SC.len], ?_, ?_, ?_⟩
  · intro i e he
    simp [SC.elem] at he
    obtain ⟨a, _, rfl⟩ := he
    rfl
  · intro h0 w
    refine (Proofs.Any.slices_Reverse_int_empty L none 0 w).mono fun e w' he => ?_
    obtain ⟨rfl, rfl⟩ := he
    exact ⟨rfl, Below.refl _ _⟩
  · intro mv w b cap arr T hb hsz hcap hr
    have hcap : xs.length ≤ cap := hcap
    have hsz : arr.size = cap := by omega
    have hget : ∀ j, j < xs.length → arr[j]? = some (.int .i64 (xs.getD j 0)) := by
      intro j hj
      have h2 := hr j [.lit (.int .i64 (xs.getD j 0))] 0 (.lit (.int .i64 (xs.getD j 0))) (by simp [SC.elem, List.getElem?_eq_getElem hj, List.getD_eq_getElem?_getD]) rfl
      simp only [Nat.mul_one, Nat.add_zero] at h2
      have hj' : j < arr.size := by omega
      have e : arr.getD j undef = arr[j] := by simp [Array.getD_eq_getD_getElem?, hj']
      rw [e] at h2
      rw [Array.getElem?_eq_getElem hj', rep_lit h2]
    have hH : Sort.Holds (Value.int .i64) w b 0 xs.toArray := by
      intro j hj
      have hj : j < xs.length := by simpa using hj
      constructor
      · simp only [World.cell?, hb, Nat.zero_add]
        rw [hget j hj]
        simp [List.getD_eq_getElem?_getD, hj]
      · simp [World.frozen?, hb]
    refine (Proofs.Any.slices_Reverse_int L b 0 cap xs w hH hl).mono fun e w' he => ?_
    obtain ⟨rfl, n, rfl⟩ := he
    have hb1 : (Sort.ahead w n).heap[b]? = some (.cells arr T) := hb
    refine ⟨rfl, Sort.ahead w n, Sort.putCells (Value.int .i64) 0 xs.reverse.toArray arr, below_ahead w n, putRow_setRow hb1 _, by simp [Sort.putCells], ?_⟩
    intro i e j x he hx
    simp only [SC.elem, Option.map_eq_some_iff] at he
    obtain ⟨a, ha, rfl⟩ := he
    have hi : i < xs.length := by have := (List.getElem?_eq_some_iff.1 ha).1; simpa using this
    cases j with
    | zero =>
      simp at hx
      subst hx
      have hi' : i < arr.size := by omega
      have hg : (Sort.putCells (Value.int .i64) 0 xs.reverse.toArray arr)[i]? = some (.int .i64 a) := by
        simp only [Sort.putCells, Array.getElem?_mapIdx, Array.getElem?_eq_getElem hi', Option.map_some, Nat.zero_le, true_and, Nat.zero_add, Nat.sub_zero]
        rw [if_pos (by simpa using hi)]
        have : xs.reverse.toArray[i]! = a := by
          rw [getElem!_pos _ _ (by simpa using hi)]
          have := (List.getElem?_eq_some_iff.1 ha).2
          simpa using this
        rw [this]
      simp only [Nat.mul_one, Nat.add_zero]
      rw [Array.getD_eq_getD_getElem?, hg]
      exact .lit rfl
    | succ j => simp at hx

/-- slices.Clone of ints, some. -/
theorem clone_own {ρ : Ren} (L : Proofs.Lays2.n15 P ρ) (hok : fnOk P (ρ.f 15) = true) (xs : List Int) (h0 : 0 < xs.length) (hl : xs.length ≤ 4294967296) : Sat P gl (ρ.f 15) [(false, [.ints xs])] (.own 1 (.ints xs)) := by
  refine .inl ⟨hok, fun mv w vs hmv _ hvs => ?_⟩
  obtain ⟨v, rfl, hr⟩ := repL_one hvs
  rcases rep_ints hr with ⟨rfl, _⟩ | ⟨b, o, cap, rfl, hcap, _, hc⟩
  · simp at h0
  refine (Proofs.Any.slices_Clone_int L b o xs.length cap xs w (Nat.le_refl _) (by omega) fun j hj => hmv _ _ _ (hc j hj)).mono fun e w' he => ?_
  obtain ⟨v', rfl, ⟨hlen, hown⟩, hnn, hbel⟩ := he
  refine ⟨v', rfl, hbel, ?_⟩
  rcases hown with ⟨rfl, _⟩ | ⟨g, cp, cur, rfl, hg, hh, hn, _, hsz, htk⟩
  · exact absurd rfl hnn
  refine .inr ⟨g, cp, rfl, hg, cur, _, hh, by simpa using hsz, by omega, rfl, hn, ?_, ?_⟩
  · intro i e he
    simp [SC.elem] at he
    obtain ⟨a, _, rfl⟩ := he
    rfl
  · intro i e j x he hx
    simp only [SC.elem, Option.map_eq_some_iff] at he
    obtain ⟨a, ha, rfl⟩ := he
    have hi : i < xs.length := (List.getElem?_eq_some_iff.1 ha).1
    cases j with
    | zero =>
      simp at hx
      subst hx
      have hg : cur[i]? = some (.int .i64 a) := by
        have e1 : (cur.toList.take (xs.length * 1))[i]? = ((xs.take xs.length).map (Value.int .i64))[i]? := by rw [htk]
        rw [List.getElem?_take_of_lt (by omega), List.take_length, List.getElem?_map, ha] at e1
        simpa using e1
      simp only [Nat.mul_one, Nat.add_zero]
      rw [Array.getD_eq_getD_getElem?, hg]
      exact .lit rfl
    | succ j => simp at hx

/-- slices.Grow of nil. -/
theorem grow_nil {ρ : Ren} (L : Proofs.Lays8.n4 P ρ) (hok : fnOk P (ρ.f 4) = true) {i0 : TypeInfo} {z : Value} (hi0 : P.info? (ρ.t 25) = some i0) (hz0 : i0.zero = some z) (hs0 : i0.size = 1) (hzc : z.cells.size = 1) (hb0 : i0.bytes = 8) (n : Int) (hn : 0 ≤ n ∧ n ≤ 4294967296) :
    SatN P gl (ρ.f 4) [(false, [.nil]), (false, [.st (.lit (.int .i64 n))])] (.own 1 (.ints [])) := by
  refine ⟨hok, fun mv w vs hmv _ hsz hvs => ?_⟩
  obtain ⟨m, rfl⟩ : ∃ m : Nat, n = m := ⟨n.toNat, by omega⟩
  have hsz : vs.size = 2 := hsz
  have e0 : vs.getD 0 undef = .slice none 0 0 := by
    obtain ⟨d, hd, h⟩ := hvs 0 _ rfl
    simp at hd; subst hd; exact h
  have e1 : vs.getD 1 undef = .int .i64 m := by
    obtain ⟨d, hd, h⟩ := hvs 1 _ rfl
    simp at hd; subst hd
    exact rep_lit h
  have hvs : vs = #[.slice none 0 0, .int .i64 m] := by
    apply Array.ext
    · simp [hsz]
    · intro i hi _
      rcases (show i = 0 ∨ i = 1 by omega) with rfl | rfl
      · rw [Array.getD_eq_getD_getElem?, Array.getElem?_eq_getElem hi] at e0; simpa using e0
      · rw [Array.getD_eq_getD_getElem?, Array.getElem?_eq_getElem hi] at e1; simpa using e1
  subst hvs
  by_cases h0 : m = 0
  · subst h0
    refine (Proofs.Any8.slices_Grow_room L none 0 0 0 w (by omega) (by omega) (by omega) (by omega)).mono fun e w' he => ?_
    obtain ⟨rfl, rfl⟩ := he
    exact ⟨_, rfl, Below.refl _ _, .inl ⟨rfl, rfl, rfl, by omega, fun i e he => by simp [SC.elem] at he⟩⟩
  · refine (Proofs.Any8.slices_Grow_grow L i0 z hi0 hz0 (by omega) none 0 0 m [] w (by omega) (by omega) (by rw [hb0]; omega) (by omega) (by simp) (by simp) (by simp)).mono fun e w' he => ?_
    obtain ⟨rfl, rfl⟩ := he
    have hge := grownCap_ge w (0 + m) 0 (ρ.t 25)
    refine ⟨_, rfl, (Below.refl w.heap.size w).drew.trans (Below.alloc1 w.drew _), .inr ⟨w.heap.size, _, rfl, Nat.le_refl _, _, _, alloc_at w.drew _, ?_, by omega, rfl, by simp [SC.len], fun i e he => by simp [SC.elem] at he, fun i e j x he _ => by simp [SC.elem] at he⟩⟩
    rw [Nat.zero_add] at hge
    simp only [Array.size_append, Builtin.zeroCells, Array.size_map, Array.size_range, hzc, Nat.zero_add]
    simp
    omega

/-- A row of which a view is given away ahead. -/
theorem freeze_sub {E : Env} {Hh : Hp} {nx : Nat} (id : Nat) {m : Bool} {z : Nat} {c : SC} (hb : Hh.get id = some (.row m z c)) : Sub ⟨E, Hh, nx⟩ ⟨E, (id, some (.row false z c)) :: Hh, nx⟩ := by
  rintro F nt a w ⟨N, ⟨q1, q2, β, q3, q4⟩, q5⟩
  have hg : Give { P := default, gl := [], ty := [] } Hh.get [(id, some (.row false z c))] := Give.of_freeze fun p hp => by
    rw [List.mem_singleton] at hp; subst hp
    exact ⟨m, z, c, hb, rfl⟩
  have ht : Tr F β N Hh.get w β N (Hp.on [(id, some (.row false z c))] Hh.get) w := hg.soft.tr
  refine ⟨N, ⟨q1, q2, β, ?_, ?_⟩, q5⟩
  · have := ht.env q4 q3
    rwa [← Hp.get_append] at this
  · have := hg.heap q4
    rwa [← Hp.get_append] at this

/-- The nil slice, as a row of its own that is empty. -/
theorem nil_sub {E : Env} {Hh : Hp} {nx : Nat} (s z : Nat) (c : SC) (hz : 0 < z) (hv : c.isView = true) (h0 : c.len = 0) (hE : E.get s = some (one .nil)) :
    Sub ⟨E, Hh, nx⟩ ⟨(s, some (one (.own nx))) :: E, (nx, some (.row true z c)) :: Hh, nx + 1⟩ := by
  rintro F nt a w ⟨N, ⟨q1, q2, β, q3, q4⟩, q5⟩
  have hf : ¬ N nx := fun h => Nat.lt_irrefl _ (q5 _ h)
  have hu : ∀ i e, c.elem i = some e → e.length = z := fun i e he => by have := SC.elem_lt he; omega
  have t2 := Tr.new q4 (Below.refl _ w) hf none (by simp) (.row true z c)
  have hN := HeapRel.new q4 (Below.refl _ w) hf none (by simp) (.row true z c) ⟨⟨hz, hv, hu⟩, .inl ⟨by simp [setB], h0⟩⟩
  rw [← Hp.get_cons] at t2 hN
  refine ⟨Fw.setN N nx, ⟨q1, q2, setB β nx none, ?_, hN⟩, fun id h => ?_⟩
  · intro u dv hu
    rw [Env.get_cons] at hu
    simp only at hu
    split at hu
    · rename_i e
      subst e
      cases hu
      have hnil : a.tmps.getD u undef = .slice none 0 0 := (q3 u _ hE).one_inv
      refine repOne ⟨.inr rfl, by rw [hnil]; rfl, fun m' z' c' hb => ?_⟩
      rw [Hp.get_cons, updH_same] at hb
      cases hb
      exact .inl ⟨by simp [setB], h0, hnil⟩
    · exact t2.env q4 q3 u dv hu
  · rcases h with h | h
    · exact Nat.lt_succ_of_lt (q5 _ h)
    · rw [h]; exact Nat.lt_succ_self _

end Go.Fw

/- Framework, part sb: contracts of the library's functions on strings, out of the kit's. Program independent. -/
namespace Go.Fw
open Go.RowKit (Below)
open Go.Shelf
variable {P : Program} {gl : Glob}

abbrev SS (l : List UInt8) : SV := (false, [.lit (.string (B l))])

theorem repL_two {mv mr : Mem} {vs : Array Value} {c d : SC} (h : RepL mv mr vs [(false, [c]), (false, [d])]) : ∃ v u, vs = #[v, u] ∧ Rep mv mr v c ∧ Rep mv mr u d := by
  obtain ⟨h1, h2⟩ := h
  obtain ⟨c', e, hr⟩ := h2 0 _ rfl
  obtain ⟨d', e', hr'⟩ := h2 1 _ rfl
  simp at e e'
  subst e e'
  refine ⟨vs.getD 0 undef, vs.getD 1 undef, ?_, hr, hr'⟩
  have h1 : vs.size = 2 := h1
  apply Array.ext
  · simp [h1]
  · intro i hi _
    rcases (show i = 0 ∨ i = 1 by omega) with rfl | rfl <;> simp [Array.getD_eq_getD_getElem?, h1]

theorem rd_heap {w : World} {b o : Nat} {v : Value} (h : rd w b o = some v) : ∃ arr T fr, w.heap[b]? = some (.cells arr T fr) ∧ arr[o]? = some v := by
  unfold rd World.cell? at h
  simp only at h
  split at h
  · rename_i arr T fr e
    exact ⟨arr, T, fr, e, h⟩
  · cases h

/-- A laid table of numbers. -/
theorem tab_is {w : World} {name : String} {g : Nat} {k : IntKind} {zs : List Int} (hn : P.globalNamed name = some g) (hg : (g, zs.map fun z => .lit (.int k z)) ∈ gl) (hG : GlobOK gl (rd w)) (h0 : 0 < zs.length) : Lib.TabIs P w name k zs := by
  obtain ⟨h1, h2⟩ := hG _ _ hg
  have h2 := h2 (by simpa using h0)
  rw [List.length_map] at h2
  obtain ⟨v0, hv0, _⟩ := h1 0 (.lit (.int k zs[0])) (by simp [h0])
  obtain ⟨arr, T, fr, hb, _⟩ := rd_heap hv0
  unfold Lib.TabIs World.var?
  rw [hn]
  simp only [Option.bind_some, hb]
  congr 1
  have hget : ∀ o, rd w g o = arr[o]? := fun o => by simp [rd, World.cell?, hb]
  apply Array.ext'
  rw [List.toList_toArray]
  apply List.ext_getElem?
  intro i
  rw [Array.getElem?_toList, List.getElem?_map]
  by_cases hi : i < zs.length
  · obtain ⟨v, hv, hr⟩ := h1 i (.lit (.int k zs[i])) (by simp [hi])
    rw [hget] at hv
    rw [hv, rep_lit hr, List.getElem?_eq_getElem hi]
    rfl
  · rw [hget] at h2
    have : arr.size ≤ zs.length := by simpa using h2
    rw [List.getElem?_eq_none (by omega : zs.length ≤ i), Array.getElem?_eq_none (by omega)]
    rfl

theorem itoa_gen {ρ : Ren} (L : Proofs.LaysM.n171 P ρ) (hok : fnOk P (ρ.f 171) = true) {g : Nat} (hn : P.globalNamed "internal/strconv.uint64pow10" = some g) (hg : (g, Lib.pow10Tab.map fun z => .lit (.int .u64 z)) ∈ gl)
    (n : Int) (h : -9223372036854775808 ≤ n ∧ n ≤ 9223372036854775807) : Sat P gl (ρ.f 171) [(false, [.lit (.int .i64 n)])] (.one (SS (Lib.itoa n))) := by
  refine .inl ⟨hok, fun mv w vs _ hG hvs => ?_⟩
  obtain ⟨v, rfl, hr⟩ := repL_one hvs
  rw [rep_lit hr]
  refine (Proofs.Any.strconv_Itoa L n h.1 h.2 w (tab_is hn hg hG (by rw [Lib.pow10Tab_length]; decide))).mono fun e w' he => ?_
  obtain ⟨rfl, k, os, rfl⟩ := he
  exact ⟨_, rfl, Lib.below_grow _ w (Nat.le_refl _) k os, ⟨_, rfl, .lit rfl⟩⟩

theorem atoi_ok {ρ : Ren} (L : Proofs.LaysC.n172 P ρ) (hok : fnOk P (ρ.f 172) = true) (s : List UInt8) (hl : s.length ≤ 1000000) {v : Int} (h : Lib.atoiAll s = .ok v) : Sat P gl (ρ.f 172) [SS s] (.tup [(false, [.lit (.int .i64 v)]), (false, [.lit .nilIface])]) := by
  refine .inl ⟨hok, fun mv w vs _ hG hvs => ?_⟩
  obtain ⟨x, rfl, hr⟩ := repL_one hvs
  rw [rep_lit hr]
  refine (Proofs.Any.strconv_Atoi_ok L (B s) (by rw [B_size]; omega) v (by rw [B_data]; exact h) w).mono fun e w' he => ?_
  obtain ⟨rfl, hw⟩ := he
  refine ⟨_, rfl, ?_, #[.int .i64 v, .nilIface], rfl, rfl, fun k x hk => ?_⟩
  · rcases hw with rfl | ⟨t, rfl⟩
    · exact Below.refl _ _
    · exact Lib.bytesWorld_below w _ t
  · match k, hk with
    | 0, hk => simp at hk; subst hk; exact ⟨_, rfl, .lit rfl⟩
    | 1, hk => simp at hk; subst hk; exact ⟨_, rfl, .lit rfl⟩
    | k + 2, hk => simp at hk

theorem atoi_bad {ρ : Ren} (L : Proofs.LaysC.n172 P ρ) (hok : fnOk P (ρ.f 172) = true) (h15 : (ρ.g 15, [SC.err]) ∈ gl) (h16 : (ρ.g 16, [SC.err]) ∈ gl) (s : List UInt8) (hl : s.length ≤ 1000000) (h : ∀ v, Lib.atoiAll s ≠ .ok v) :
    ∃ v, Sat P gl (ρ.f 172) [SS s] (.tup [(false, [.lit (.int .i64 v)]), (false, [.err])]) := by
  have key : ∀ (v : Int) (g : Nat), (g, [SC.err]) ∈ gl → (∀ (ev : Value) (w : World), w.cell? ⟨g, 0, none⟩ = some ev → (ev = .nilIface ∨ ∃ te pe, ev = .iface te pe) → Calls P (ρ.f 172) #[.string (B s)] w fun e w' => ∃ N, e = .returned (.tuple #[.int .i64 v, .iface (ρ.t 168) (.pointer (some ⟨N, 0, none⟩))]) ∧ w.heap.size ≤ N ∧ w'.heap[N]? = some (.cells #[.string ⟨#[65, 116, 111, 105]⟩, .string (B s), ev] (ρ.t 210) (0, 0)) ∧ Below w.heap.size w w') →
      Sat P gl (ρ.f 172) [SS s] (.tup [(false, [.lit (.int .i64 v)]), (false, [.err])]) := by
    intro v g hg hc
    refine .inl ⟨hok, fun mv w vs _ hG hvs => ?_⟩
    obtain ⟨x, rfl, hr⟩ := repL_one hvs
    rw [rep_lit hr]
    obtain ⟨ev, h1, h2⟩ := (hG _ _ hg).1 0 _ rfl
    have hev : ∃ T x, ev = .iface T x := by
      cases h2 with
      | err h => exact h
      | empty a cap hv => simp [SC.isView] at hv
      | view _ _ _ _ _ hv => simp [SC.isView] at hv
    refine (hc ev w h1 (.inr hev)).mono fun e w' he => ?_
    obtain ⟨N, rfl, _, _, hb⟩ := he
    refine ⟨_, rfl, hb, _, rfl, rfl, fun k x hk => ?_⟩
    match k, hk with
    | 0, hk => simp at hk; subst hk; exact ⟨_, rfl, .lit rfl⟩
    | 1, hk => simp at hk; subst hk; exact ⟨_, rfl, .err ⟨_, _, rfl⟩⟩
    | k + 2, hk => simp at hk
  rcases hs : Lib.atoiAll s with v | _ | _
  · exact absurd hs (h v)
  · exact ⟨0, key 0 _ h15 fun ev w h1 h2 => Proofs.Any.strconv_Atoi_syntax L (B s) (by rw [B_size]; omega) (by rw [B_data]; exact hs) ev w h1 h2⟩
  · refine ⟨Lib.atoiSat s, key _ _ h16 fun ev w h1 h2 => ?_⟩
    have := Proofs.Any.strconv_Atoi_range L (B s) (by rw [B_size]; omega) (by rw [B_data]; exact hs) ev w h1 h2
    rw [B_data] at this
    exact this

theorem trimPrefix_gen {ρ : Ren} (L : Proofs.Lays.n101 P ρ) (hok : fnOk P (ρ.f 101) = true) (s p : List UInt8) : Sat P gl (ρ.f 101) [SS s, SS p] (.one (SS (Lib.trimPrefix s p))) := by
  refine .inl ⟨hok, fun mv w vs _ hG hvs => ?_⟩
  obtain ⟨x, y, rfl, hr, hr'⟩ := repL_two hvs
  rw [rep_lit hr, rep_lit hr']
  refine (Proofs.Any.strings_TrimPrefix L (B s) (B p) w).mono fun e w' he => ?_
  obtain ⟨rfl, rfl⟩ := he
  rw [B_data, B_data]
  exact ⟨_, rfl, Below.refl _ _, ⟨_, rfl, .lit rfl⟩⟩

/-- The pieces of a string between the places of a byte, as the library cuts it. -/
def cutS (s : List UInt8) (c : UInt8) : List (List UInt8) := Lib.splitK [c] 0 (Lib.countB (B s) (B [c])) s
abbrev strs (l : List (List UInt8)) : List (List SC) := l.map fun w => [.lit (.string (B w))]

theorem strs_elem {l : List (List UInt8)} {i : Nat} {e : List SC} (h : (SC.view (strs l)).elem i = some e) : ∃ w, l[i]? = some w ∧ e = [.lit (.string (B w))] := by
  simp only [SC.elem, List.getElem?_map, Option.map_eq_some_iff] at h
  obtain ⟨w, h1, h2⟩ := h
  exact ⟨w, h1, h2.symm⟩

theorem split_gen {ρ : Ren} (L : Proofs.Lays.n146 P ρ) (hok : fnOk P (ρ.f 146) = true) (hi9 : (P.info? (ρ.t 9)).map (fun i => (i.zero, i.size, i.bytes)) = some (some (.string ByteArray.empty), 1, 16))
    (hg : (ρ.g 1, [SC.num .i64]) ∈ gl) (s : List UInt8) (c : UInt8) (hl : s.length ≤ 1000000) (hlen : (cutS s c).length = Lib.countB (B s) (B [c]) + 1) : Sat P gl (ρ.f 146) [SS s, SS [c]] (.own 1 (.view (strs (cutS s c)))) := by
  refine .inl ⟨hok, fun mv w vs _ hG hvs => ?_⟩
  obtain ⟨x, y, rfl, hr, hr'⟩ := repL_two hvs
  rw [rep_lit hr, rep_lit hr']
  obtain ⟨ev, h1, h2⟩ := (hG _ _ hg).1 0 _ rfl
  have hev : ∃ m, ev = .int .i64 m := by
    cases h2 with
    | num h => exact h
    | empty a cap hv => simp [SC.isView] at hv
    | view _ _ _ _ _ hv => simp [SC.isView] at hv
  obtain ⟨m, rfl⟩ := hev
  refine (Proofs.Any.strings_Split L hi9 (B s) (B [c]) m w (by rw [B_size]; omega) h1 (by rw [B_size]; exact Nat.le_refl 1)).mono fun e w' he => ?_
  obtain ⟨rfl, rfl⟩ := he
  have hsp : (Lib.splitB (B [c]) 0 (Lib.countB (B s) (B [c])) (B s)) = (cutS s c).map B := by
    have h := Lib.splitB_data (B [c]) 0 (Lib.countB (B s) (B [c])) (B s)
    rw [B_data, B_data] at h
    have : (cutS s c).map B = ((Lib.splitB (B [c]) 0 (Lib.countB (B s) (B [c])) (B s)).map (·.data.toList)).map B := by rw [h]; rfl
    rw [this, List.map_map]
    have e : (B ∘ fun x : ByteArray => x.data.toList) = id := by funext x; exact B_of x
    rw [e, List.map_id]
  rw [hsp]
  refine ⟨_, rfl, Below.alloc1 _ _, .inr ⟨w.heap.size, _, by rw [show (SC.view (strs (cutS s c))).len = Lib.countB (B s) (B [c]) + 1 by simp [SC.len, hlen]], Nat.le_refl _, _, _, alloc_at w _, by simp [hlen], by decide, rfl, by simp [SC.len, hlen], fun i e he => ?_, fun i e j x he hx => ?_⟩⟩
  · obtain ⟨u, _, rfl⟩ := strs_elem he; rfl
  · obtain ⟨u, hu, rfl⟩ := strs_elem he
    cases j with
    | zero =>
      simp at hx; subst hx
      rw [show i * 1 + 0 = i by omega, Array.getD_eq_getD_getElem?]
      have : (((cutS s c).map B).map Value.string).toArray[i]? = some (.string (B u)) := by simp [hu]
      rw [this]
      exact .lit rfl
    | succ j => simp at hx

theorem join_gen {ρ : Ren} (L : Proofs.Lays.n156 P ρ) (X : Proofs.Builder.Extra P ρ) (hok : fnOk P (ρ.f 156) = true) (l : List (List UInt8)) (c : UInt8) (hl : l.length ≤ 1000000) (hlen : (Lib.join l [c]).length ≤ 1000000000) :
    Sat P gl (ρ.f 156) [(false, [.view (strs l)]), SS [c]] (.one (SS (Lib.join l [c]))) := by
  refine .inl ⟨hok, fun mv w vs hmv hG hvs => ?_⟩
  obtain ⟨x, y, rfl, hr, hr'⟩ := repL_two hvs
  rw [rep_lit hr']
  cases hr with
  | empty a cap hv h0 =>
    have : l = [] := by simpa [SC.len] using h0
    subst this
    refine (Proofs.Any.strings_Join_none L X a cap (B [c]) w).mono fun e w' he => ?_
    obtain ⟨rfl, rfl⟩ := he
    exact ⟨_, rfl, Below.refl _ _, ⟨_, rfl, .lit rfl⟩⟩
  | view b o cap z f hv hpos hz hcap hel hc hrr =>
    have hpos : 0 < l.length := by simpa [SC.len] using hpos
    obtain ⟨e0, he0⟩ := SC.elem_of_lt (c := .view (strs l)) (i := 0) (by simpa [SC.len] using hpos)
    have hz1 : z = 1 := by
      rw [← hel 0 e0 he0]
      obtain ⟨u, _, rfl⟩ := strs_elem he0
      rfl
    subst hz1
    have hlen' : (SC.view (strs l)).len = (l.map B).length := by simp [SC.len]
    have hcells : ∀ (j : Nat) x, (l.map B)[j]? = some x → w.cell? ⟨b, o + j, none⟩ = some (.string x) := by
      intro j x hj
      rw [List.getElem?_map] at hj
      cases hu : l[j]? with
      | none => rw [hu] at hj; cases hj
      | some u =>
        rw [hu] at hj
        simp at hj
        subst hj
        have hjl : j < l.length := (List.getElem?_eq_some_iff.1 hu).1
        have h1 := hc j (by simpa [SC.len] using hjl)
        have h2 := hrr j [.lit (.string (B u))] 0 (.lit (.string (B u))) (by simp [SC.elem, hu]) rfl
        rw [show j * 1 + 0 = j by omega] at h2
        rw [rep_lit h2] at h1
        exact hmv _ _ _ h1
    have hdata : (l.map B).map (·.data.toList) = l := by
      rw [List.map_map]
      have e : ((fun x : ByteArray => x.data.toList) ∘ B) = id := by funext x; exact B_data x
      rw [e, List.map_id]
    have hbk : b < w.heap.size := World.block_lt_of_cell? _ _ (hcells 0 (B l[0]) (by simp [hpos]))
    rw [hlen']
    refine (Proofs.Any.strings_Join L X b o cap (l.map B) (B [c]) w hcells hbk (by simp; omega) (by simpa [SC.len] using hcap) (by rw [hdata, B_data]; omega)).mono fun e w' he => ?_
    obtain ⟨rfl, hb⟩ := he
    rw [hdata, B_data]
    exact ⟨_, rfl, hb, ⟨_, rfl, .lit rfl⟩⟩
end Go.Fw

/- Framework: pieces of rows of strings. -/
namespace Go.Fw
open Go.IntWalk Go.RowKit
variable {C : Ctx} {fid : Nat} {o : Oper} {E : Env} {H : Hp} {t : Trace} {k : Env → Hp → Trace → Prop} {T : TypeId} {x y : Operand}
theorem strs_uniA (l : List (List UInt8)) : (SC.view (strs l)).uni 1 := by
  intro e he
  obtain ⟨w, _, rfl⟩ := List.mem_map.1 he
  rfl
theorem rVSlH {i : TI} {e : TypeId} {ie : TI} {l : List (List UInt8)} {zz : Int} {n : Nat} {k' : IntKind} [nz : NatOf zz n] (ho : o.op = .slice T x none (some y) none) (hx : C.ev E.get x = some (.val (false, [.st (.view (strs l))]))) (hy : C.ev E.get y = some (.val (false, [.st (.lit (.int k' zz))])))
    (hi : C.ti T = some i) (hc : i.cls = .slice e) (he : C.ti e = some ie) (hs : ie.size = 1) (hb : n ≤ l.length)
    (h2 : putK o.dst (one (.st (.view (strs (l.take n))))) E fun E' => k E' H (([], []) :: t)) : RunO C fid o E H t k := by
  refine rG (r := one (.st (.view (strs (l.take n))))) (u := []) (R := []) (fun K hK => ?_) h2
  have e0 : zz.toNat = n := by rw [nz.eq]; simp
  have u := strs_uniA l
  unfold opA
  rw [ho]
  simp only [hx, Option.map]
  unfold sliceA
  simp only [hi, hc, he, stat1L, stat1, hy, SC.isView, bnd, SC.len, SC.sub, List.drop_zero]
  rw [hs]
  refine ⟨by rw [nz.eq]; omega, ⟨by omega, by rw [e0]; simpa using hb⟩, u, ?_⟩
  rw [e0, ← List.map_take]
  exact hK
theorem rVSlL {i : TI} {e : TypeId} {ie : TI} {l : List (List UInt8)} {zz : Int} {n : Nat} {k' : IntKind} [nz : NatOf zz n] (ho : o.op = .slice T x (some y) none none) (hx : C.ev E.get x = some (.val (false, [.st (.view (strs l))]))) (hy : C.ev E.get y = some (.val (false, [.st (.lit (.int k' zz))])))
    (hi : C.ti T = some i) (hc : i.cls = .slice e) (he : C.ti e = some ie) (hs : ie.size = 1) (hb : n ≤ l.length)
    (h2 : putK o.dst (one (.st (.view (strs (l.drop n))))) E fun E' => k E' H (([], []) :: t)) : RunO C fid o E H t k := by
  refine rG (r := one (.st (.view (strs (l.drop n))))) (u := []) (R := []) (fun K hK => ?_) h2
  have e0 : zz.toNat = n := by rw [nz.eq]; simp
  have u := strs_uniA l
  unfold opA
  rw [ho]
  simp only [hx, Option.map]
  unfold sliceA
  simp only [hi, hc, he, stat1L, stat1, hy, SC.isView, bnd, SC.len, SC.sub, List.take_length]
  rw [hs]
  refine ⟨by rw [nz.eq]; omega, ⟨by rw [e0]; simpa using hb, by omega⟩, u, ?_⟩
  rw [e0, ← List.map_drop]
  exact hK
theorem rVOlH {i : TI} {e : TypeId} {ie : TI} {l : List (List UInt8)} {id : Nat} {zz : Int} {n : Nat} {k' : IntKind} [nz : NatOf zz n] (ho : o.op = .slice T x none (some y) none) (hx : C.ev E.get x = some (.val (false, [.own id]))) (hy : C.ev E.get y = some (.val (false, [.st (.lit (.int k' zz))])))
    (hi : C.ti T = some i) (hc : i.cls = .slice e) (he : C.ti e = some ie) (hs : ie.size = 1) (hH : H.get id = some (.row false 1 (.view (strs l)))) (hb : n ≤ l.length)
    (h2 : putK o.dst (one (.st (.view (strs (l.take n))))) E fun E' => k E' H (([id], []) :: t)) : RunO C fid o E H t k := by
  refine rG (r := one (.st (.view (strs (l.take n))))) (u := []) (R := [id]) (fun K hK => ?_) h2
  have e0 : zz.toNat = n := by rw [nz.eq]; simp
  have u := strs_uniA l
  unfold opA
  rw [ho]
  simp only [hx, Option.map]
  unfold sliceA
  simp only [hi, hc, he, stat1L, stat1, hH, hy, SC.isView, bnd, SC.len, SC.sub, List.drop_zero, List.append_nil]
  rw [hs]
  refine ⟨by rw [nz.eq]; omega, ⟨by omega, by rw [e0]; simpa using hb⟩, u, ?_⟩
  rw [e0, ← List.map_take]
  exact hK
theorem rVOlL {i : TI} {e : TypeId} {ie : TI} {l : List (List UInt8)} {id : Nat} {zz : Int} {n : Nat} {k' : IntKind} [nz : NatOf zz n] (ho : o.op = .slice T x (some y) none none) (hx : C.ev E.get x = some (.val (false, [.own id]))) (hy : C.ev E.get y = some (.val (false, [.st (.lit (.int k' zz))])))
    (hi : C.ti T = some i) (hc : i.cls = .slice e) (he : C.ti e = some ie) (hs : ie.size = 1) (hH : H.get id = some (.row false 1 (.view (strs l)))) (hb : n ≤ l.length)
    (h2 : putK o.dst (one (.st (.view (strs (l.drop n))))) E fun E' => k E' H (([id], []) :: t)) : RunO C fid o E H t k := by
  refine rG (r := one (.st (.view (strs (l.drop n))))) (u := []) (R := [id]) (fun K hK => ?_) h2
  have e0 : zz.toNat = n := by rw [nz.eq]; simp
  have u := strs_uniA l
  unfold opA
  rw [ho]
  simp only [hx, Option.map]
  unfold sliceA
  simp only [hi, hc, he, stat1L, stat1, hH, hy, SC.isView, bnd, SC.len, SC.sub, List.take_length, List.append_nil]
  rw [hs]
  refine ⟨by rw [nz.eq]; omega, ⟨by rw [e0]; simpa using hb, by omega⟩, u, ?_⟩
  rw [e0, ← List.map_drop]
  exact hK
/-- Loading an element of a row of the frame's own. -/
theorem rLdv {i : TI} {id n : Nat} {m : Bool} {l : List (List SC)} {v : Value} (ho : o.op = .load T x) (hx : C.ev E.get x = some (.val (false, [.rptr id 1 n 0]))) (hi : C.ti T = some i) (hg : clsAg i.cls = false) (hs : i.size = 1)
    (hH : H.get id = some (.row m 1 (.view l))) (hb : l[n]? = some [.lit v])
    (h2 : putK o.dst (lit v) E fun E' => k E' H (([id], []) :: t)) : RunO C fid o E H t k := by
  refine rG (r := lit v) (u := []) (R := [id]) (fun K hK => ?_) h2
  unfold opA
  rw [ho]
  simp only [hx]
  unfold loadA
  simp only [hi, hH, hs, hg]
  refine ⟨[.lit v], ?_, hK⟩
  simp [SC.elem, hb]
/-- A nil slice in a box, as an empty row of its own. -/
theorem nilb_sub {E : Env} {Hh : Hp} {nx : Nat} (id k z : Nat) (c : SC) {T : TypeId} {cs : List DC} (hz : 0 < z) (hv : c.isView = true) (h0 : c.len = 0) (hB : Hh.get id = some (.box T cs)) (hk : cs[k]? = some .nil) :
    Sub ⟨E, Hh, nx⟩ ⟨E, (id, some (.box T (cs.set k (.own nx)))) :: (nx, some (.row true z c)) :: Hh, nx + 1⟩ := by
  rintro F nt a w ⟨N, ⟨q1, q2, β, q3, q4⟩, q5⟩
  have hf : ¬ N nx := fun h => Nat.lt_irrefl _ (q5 _ h)
  have hu : ∀ i e, c.elem i = some e → e.length = z := fun i e he => by have := SC.elem_lt he; omega
  have t2 := Tr.new q4 (Below.refl _ w) hf none (by simp) (.row true z c)
  have hN := HeapRel.new q4 (Below.refl _ w) hf none (by simp) (.row true z c) ⟨⟨hz, hv, hu⟩, .inl ⟨by simp [setB], h0⟩⟩
  rw [← Hp.get_cons] at t2 hN
  have hid : N id := (q4.rel id _ hB).1
  have hne : id ≠ nx := fun e => hf (e ▸ hid)
  have hB1 : Hp.get ((nx, some (.row true z c)) :: Hh) id = some (.box T cs) := by rw [Hp.get_cons, updH_ne _ _ _ hne]; exact hB
  generalize hH1 : Hp.get ((nx, some (.row true z c)) :: Hh) = H1 at *
  have hnx : H1 nx = some (.row true z c) := by rw [← hH1, Hp.get_cons, updH_same]
  have t3 : Tr F (setB β nx none) (Fw.setN N nx) H1 w (setB β nx none) (Fw.setN N nx) (updH H1 id (some (.box T (cs.set k (.own nx))))) w := {
    below := Below.refl _ _
    mem := fun b o v _ hs e => ⟨fun id' blk e' hb => by
      by_cases h : id' = id
      · subst h
        exact (hs id' _ hB1 hb).elim
      · rw [updH_ne _ _ _ h] at e'
        exact hs id' blk e' hb, e⟩
    used := fun _ h => h
    beta := fun _ _ => rfl
    keep := fun id' blk' _ e => by
      by_cases h : id' = id
      · subst h
        rw [updH_same] at e; cases e
        exact ⟨_, hB1, trivial⟩
      · rw [updH_ne _ _ _ h] at e
        exact ⟨blk', e, blk'.like_refl⟩
    size := fun _ arr _ _ h => ⟨arr, h, rfl⟩ }
  have h3 : HeapRel F (setB β nx none) (Fw.setN N nx) (updH H1 id (some (.box T (cs.set k (.own nx))))) w := by
    refine hN.step t3 (fun i => i = id) (fun i b0 hi e => ?_) (fun i b0 hi e => ?_) (fun i j b x y hi hj bi bj => ?_)
    · rw [updH_ne _ _ _ hi] at e
      exact ⟨e, (hN.rel i b0 e).1, fun _ _ => rfl⟩
    · subst hi
      rw [updH_same] at e; cases e
      obtain ⟨hn, b, arr, T', h1, h2, h3, h4, h5⟩ := hN.rel i _ hB1
      refine ⟨hn, b, arr, T', h1, h2, h3, by simp [h4], fun j x hx => ?_⟩
      by_cases hj : j = k
      · subst hj
        have hlt : j < cs.length := (List.getElem?_eq_some_iff.1 hk).1
        have : x = .own nx := by simpa [hlt] using hx.symm
        subst this
        have hnil : arr.getD j undef = .slice none 0 0 := h5 j _ hk
        refine ⟨.inr rfl, by rw [hnil]; rfl, fun m' z' c' hb => ?_⟩
        rw [updH_ne _ _ _ (Ne.symm hne), hnx] at hb
        cases hb
        exact .inl ⟨by simp [setB], h0, hnil⟩
      · rw [List.getElem?_set_ne (Ne.symm hj)] at hx
        exact t3.repD hN (h5 j x hx)
    · have live : ∀ {k' : Nat} {b0 : Blk}, updH H1 id (some (.box T (cs.set k (.own nx)))) k' = some b0 → ∃ b1, H1 k' = some b1 := by
        intro k' b0 h
        by_cases hk' : k' = id
        · subst hk'; exact ⟨_, hB1⟩
        · rw [updH_ne _ _ _ hk'] at h; exact ⟨b0, h⟩
      obtain ⟨b1, h1⟩ := live hi
      obtain ⟨b2, h2⟩ := live hj
      exact hN.inj i j b b1 b2 h1 h2 bi bj
  refine ⟨Fw.setN N nx, ⟨q1, q2, setB β nx none, ?_, ?_⟩, fun id' h => ?_⟩
  · rw [Hp.get_cons, hH1]
    exact t3.env hN (t2.env q4 q3)
  · rw [Hp.get_cons, hH1]
    exact h3
  · rcases h with h | h
    · exact Nat.lt_succ_of_lt (q5 _ h)
    · rw [h]; exact Nat.lt_succ_self _
end Go.Fw

/- Framework, part sd: a string cut in two at a byte, out of the kit's contract. Program independent. -/
namespace Go.Fw
open Go.RowKit (Below)
open Go.Shelf
variable {P : Program} {gl : Glob}
theorem cut_gen {ρ : Ren} (L : Proofs.Lays.n145 P ρ) (hok : fnOk P (ρ.f 145) = true) (hg : (ρ.g 1, [SC.num .i64]) ∈ gl) (s : List UInt8) (c : UInt8) (hl : s.length ≤ 1000000) :
    Sat P gl (ρ.f 145) [SS s, SS [c]] (.tup [SS (Lib.cut s [c]).1, SS (Lib.cut s [c]).2.1, (false, [.lit (.bool (Lib.cut s [c]).2.2)])]) := by
  refine .inl ⟨hok, fun mv w vs _ hG hvs => ?_⟩
  obtain ⟨x, y, rfl, hr, hr'⟩ := repL_two hvs
  rw [rep_lit hr, rep_lit hr']
  obtain ⟨ev, h1, h2⟩ := (hG _ _ hg).1 0 _ rfl
  have hev : ∃ m, ev = .int .i64 m := by
    cases h2 with
    | num h => exact h
    | empty a cap hv => simp [SC.isView] at hv
    | view _ _ _ _ _ hv => simp [SC.isView] at hv
  obtain ⟨m, rfl⟩ := hev
  refine (Proofs.Any.strings_Cut L (B s) (B [c]) m w (by rw [B_size]; omega) h1).mono fun e w' he => ?_
  obtain ⟨rfl, n, rfl⟩ := he
  rw [B_data, B_data]
  refine ⟨_, rfl, (Below.refl w.heap.size w).trans ⟨rfl, rfl, rfl, Nat.le_refl _, fun _ _ => rfl⟩, _, rfl, rfl, fun k x hk => ?_⟩
  match k, hk with
  | 0, hk => simp at hk; subst hk; exact ⟨_, rfl, .lit rfl⟩
  | 1, hk => simp at hk; subst hk; exact ⟨_, rfl, .lit rfl⟩
  | 2, hk => simp at hk; subst hk; exact ⟨_, rfl, .lit rfl⟩
  | k + 3, hk => simp at hk
end Go.Fw
