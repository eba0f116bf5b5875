/- Framework, strings: their bytes as lists; clean steps. Program independent. -/
import Derived.Test.YtdfdgnggbekhnaaGreatDoorFc
import Derived.Lib.Strings
import Derived.Shelf.Slices.Reverse
import Derived.Shelf.Slices.Clone
import Derived.Shelf.Spec.SlicesGrow
import Derived.Shelf.Strconv.Itoa3
import Derived.Shelf.Strconv.AtoiAll
import Derived.Shelf.Strings.Split
import Derived.Shelf.Strings.OnBuilder
import Derived.Shelf.Strings.Prefix
import Derived.Lib.AppendIntMem
import Derived.Lib.SmallJoins
import Derived.Lib.AtoiAll
import Derived.Lib.ItoaNum
import Derived.Lib.Split
import Derived.Lib.Join
import Derived.Lib.AtoiAllCases
import Derived.Shelf.Strings.Cut
import Derived.Test.YtdfdgnggbekhnaaGreatDoorFd
namespace Go.Fw
open Go.RowKit (Below)

/-- A string, by its bytes. -/
def B (l : List UInt8) : ByteArray := ⟨l.toArray⟩
abbrev lS (l : List UInt8) : Option DV := some (lit (.string (B l)))

theorem B_data (l : List UInt8) : (B l).data.toList = l := by simp [B]
theorem B_size (l : List UInt8) : (B l).size = l.length := by rw [Lib.size_eq, B_data]
theorem B_of (s : ByteArray) : B s.data.toList = s := Lib.mk_data s
theorem B_inj {a b : List UInt8} (h : B a = B b) : a = b := by rw [← B_data a, h, B_data]
theorem B_cat (a b : List UInt8) : B a ++ B b = B (a ++ b) := by
  rw [← B_of (B a ++ B b)]
  exact congrArg B (by simp [B])
theorem B_list (l : List UInt8) : (B l).toList = l := by rw [Lib.toList_data, B_data]
theorem B_get (l : List UInt8) (i : Nat) : (B l)[i]? = l[i]? := by
  have : (B l)[i]? = (B l).data[i]? := by
    simp only [getElem?_def]
    rfl
  rw [this]; simp [B]
theorem B_ext (l : List UInt8) (a b : Nat) : (B l).extract a b = B ((l.take b).drop a) := by
  rw [Lib.extract_eq, B_data]
  show (⟨_⟩ : ByteArray) = ⟨_⟩
  congr 2
  rw [List.drop_take]

section
variable {C : Ctx} {fid : Nat} {o : Oper} {E : Env} {H : Hp} {t : Trace} {k : Env → Hp → Trace → Prop} {T : TypeId} {x y : Operand} {p : TypeId} {a b : List UInt8}

theorem opA_str {op : BinOp} (ho : o.op = .binOp op T x y p) (hx : C.ev E.get x = lS a) (hy : C.ev E.get y = lS b) : opA C fid o (C.ev E.get) H.get = fun K => strBin op (B a) (B b) fun v => K (lit v) [] [] := by
  funext K
  unfold opA
  rw [ho]
  simp only [hx, hy, binA]
  unfold litBin
  cases op <;> rfl

theorem rSCat (ho : o.op = .binOp .add T x y p) (hx : C.ev E.get x = lS a) (hy : C.ev E.get y = lS b) (hb : a.length + b.length ≤ 1000000000000)
    (h2 : putK o.dst (lit (.string (B (a ++ b)))) E fun E' => k E' H (([], []) :: t)) : RunO C fid o E H t k := by
  refine rG (r := lit (.string (B (a ++ b)))) (u := []) (R := []) (fun K hK => ?_) h2
  rw [opA_str ho hx hy]
  exact ⟨by rw [B_size, B_size]; omega, by rw [B_cat]; exact hK⟩
theorem rSEq (ho : o.op = .binOp .eql T x y p) (hx : C.ev E.get x = lS a) (hy : C.ev E.get y = lS b)
    (h2 : putK o.dst (lit (.bool (decide (a = b)))) E fun E' => k E' H (([], []) :: t)) : RunO C fid o E H t k := by
  refine rG (r := lit (.bool (decide (a = b)))) (u := []) (R := []) (fun K hK => ?_) h2
  rw [opA_str ho hx hy]
  show K (lit (.bool ((B a).toList == (B b).toList))) [] []
  rw [B_list, B_list, show (a == b) = decide (a = b) by rw [Bool.eq_iff_iff]; simp]
  exact hK
theorem rSNe (ho : o.op = .binOp .neq T x y p) (hx : C.ev E.get x = lS a) (hy : C.ev E.get y = lS b)
    (h2 : putK o.dst (lit (.bool (!decide (a = b)))) E fun E' => k E' H (([], []) :: t)) : RunO C fid o E H t k := by
  refine rG (r := lit (.bool (!decide (a = b)))) (u := []) (R := []) (fun K hK => ?_) h2
  rw [opA_str ho hx hy]
  show K (lit (.bool !((B a).toList == (B b).toList))) [] []
  rw [B_list, B_list, show (a == b) = decide (a = b) by rw [Bool.eq_iff_iff]; simp]
  exact hK
theorem rSLen {c : Call} {i : TI} {tt : TypeId} {ts : List TypeId} (ho : o.op = .call c) (hc : c.callee = .builtin .len) (ha : c.argTypes.toList = tt :: ts) (hx : (c.args.toList.map (C.ev E.get)) = [lS a]) (hi : C.ti tt = some i) (hcl : i.cls = .str)
    (h2 : putK o.dst (lit (.int .i64 (a.length : Nat))) E fun E' => k E' H (([], []) :: t)) : RunO C fid o E H t k := by
  refine rG (r := lit (.int .i64 (a.length : Nat))) (u := []) (R := []) (fun K hK => ?_) h2
  unfold opA
  rw [ho]
  have hx' : (c.args.toList.map (C.ev E.get)) = [some (.val (false, [.st (.lit (.string (B a)))]))] := hx
  simp only [hc, ha, hx']
  unfold builtinA
  simp only [hi, hcl]
  show K (lit (.int .i64 ((B a).size : Nat))) [] []
  rw [B_size]; exact hK
theorem rSIdx {i : TI} {zz : Int} {n : Nat} {k' : IntKind} [nz : NatOf zz n] (ho : o.op = .index T x y) (hx : C.ev E.get x = lS a) (hy : C.ev E.get y = some (lit (.int k' zz))) (hi : C.ti T = some i) (hcl : i.cls = .str) (hb : 0 ≤ zz ∧ n < a.length)
    (h2 : putK o.dst (lit (.int .u8 ((a.getD n 0).toNat : Nat))) E fun E' => k E' H (([], []) :: t)) : RunO C fid o E H t k := by
  refine rG (r := lit (.int .u8 ((a.getD n 0).toNat : Nat))) (u := []) (R := []) (fun K hK => ?_) h2
  unfold opA
  rw [ho]
  simp only [hx, hy]
  simp only [indexA, hi, hcl]
  refine ⟨hb.1, a.getD n 0, ?_, hK⟩
  have e : zz.toNat = n := by rw [nz.eq]; simp
  rw [e, B_get, List.getD_eq_getElem?_getD, List.getElem?_eq_getElem hb.2]
  rfl
theorem rSSlL {i : TI} {zz : Int} {n : Nat} {k' : IntKind} [nz : NatOf zz n] (ho : o.op = .slice T x (some y) none none) (hx : C.ev E.get x = lS a) (hy : C.ev E.get y = some (lit (.int k' zz))) (hi : C.ti T = some i) (hcl : i.cls = .str) (hb : 0 ≤ zz ∧ n ≤ a.length)
    (h2 : putK o.dst (lit (.string (B (a.drop n)))) E fun E' => k E' H (([], []) :: t)) : RunO C fid o E H t k := by
  refine rG (r := lit (.string (B (a.drop n)))) (u := []) (R := []) (fun K hK => ?_) h2
  have e : zz.toNat = n := by rw [nz.eq]; simp
  unfold opA
  rw [ho]
  simp only [hx, Option.map_some, hy, Option.map_none]
  simp only [sliceA, hi, hcl, bnd]
  refine ⟨hb.1, ⟨by rw [B_size, e]; exact hb.2, Nat.le_refl _⟩, ?_⟩
  rw [e, B_size, B_ext, List.take_length]
  exact hK
theorem rSSlH {i : TI} {zz : Int} {n : Nat} {k' : IntKind} [nz : NatOf zz n] (ho : o.op = .slice T x none (some y) none) (hx : C.ev E.get x = lS a) (hy : C.ev E.get y = some (lit (.int k' zz))) (hi : C.ti T = some i) (hcl : i.cls = .str) (hb : 0 ≤ zz ∧ n ≤ a.length)
    (h2 : putK o.dst (lit (.string (B (a.take n)))) E fun E' => k E' H (([], []) :: t)) : RunO C fid o E H t k := by
  refine rG (r := lit (.string (B (a.take n)))) (u := []) (R := []) (fun K hK => ?_) h2
  have e : zz.toNat = n := by rw [nz.eq]; simp
  unfold opA
  rw [ho]
  simp only [hx, Option.map_some, hy, Option.map_none]
  simp only [sliceA, hi, hcl, bnd]
  refine ⟨hb.1, ⟨Nat.zero_le _, by rw [B_size, e]; exact hb.2⟩, ?_⟩
  rw [e, B_ext, List.drop_zero]
  exact hK
theorem rSSlB {i : TI} {zz yy : Int} {n m : Nat} {k' k'' : IntKind} {z : Operand} [nz : NatOf zz n] [ny : NatOf yy m] (ho : o.op = .slice T x (some y) (some z) none) (hx : C.ev E.get x = lS a) (hy : C.ev E.get y = some (lit (.int k' zz))) (hz : C.ev E.get z = some (lit (.int k'' yy))) (hi : C.ti T = some i) (hcl : i.cls = .str) (hb : (0 ≤ zz ∧ 0 ≤ yy) ∧ n ≤ m ∧ m ≤ a.length)
    (h2 : putK o.dst (lit (.string (B ((a.take m).drop n)))) E fun E' => k E' H (([], []) :: t)) : RunO C fid o E H t k := by
  refine rG (r := lit (.string (B ((a.take m).drop n)))) (u := []) (R := []) (fun K hK => ?_) h2
  have e : zz.toNat = n := by rw [nz.eq]; simp
  have e' : yy.toNat = m := by rw [ny.eq]; simp
  unfold opA
  rw [ho]
  simp only [hx, Option.map_some, hy, hz]
  simp only [sliceA, hi, hcl, bnd]
  refine ⟨hb.1.1, hb.1.2, ⟨by rw [e, e']; exact hb.2.1, by rw [B_size, e']; exact hb.2.2⟩, ?_⟩
  rw [e, e', B_ext]
  exact hK
end

/-! ### Bytes and conversions -/
section
variable {C : Ctx} {fid : Nat} {o : Oper} {E : Env} {H : Hp} {t : Trace} {k : Env → Hp → Trace → Prop} {T : TypeId} {x y : Operand} {p : TypeId}

theorem rSub8 {a b : Int} (ho : o.op = .binOp .sub T x y p) (hx : C.ev E.get x = some (lit (.int .u8 a))) (hy : C.ev E.get y = some (lit (.int .u8 b))) (hb : 0 ≤ a - b ∧ a - b ≤ 255)
    (h2 : putK o.dst (lit (.int .u8 (a - b))) E fun E' => k E' H (([], []) :: t)) : RunO C fid o E H t k := by
  refine rG (r := lit (.int .u8 (a - b))) (u := []) (R := []) (fun K hK => ?_) h2
  have e : IntKind.u8.wrap (a - b) = a - b := by rw [IntKind.wrap_u8]; omega
  unfold opA
  rw [ho]
  simp only [hx, hy, lit, binA]
  show K (lit (.int .u8 (IntKind.u8.wrap (a - b)))) [] []
  rw [e]; exact hK
/-- A number converted, none of it cut off. -/
theorem rConv {i j : TI} {kd ks k' : IntKind} {n : Int} {S : TypeId} (ho : o.op = .convert S T x) (hx : C.ev E.get x = some (lit (.int k' n))) (hi : C.ti S = some i) (hj : C.ti T = some j) (hs : i.cls = .int ks) (hd : j.cls = .int kd) (hb : kd.wrap n = n)
    (h2 : putK o.dst (lit (.int kd n)) E fun E' => k E' H (([], []) :: t)) : RunO C fid o E H t k := by
  refine rG (r := lit (.int kd n)) (u := []) (R := []) (fun K hK => ?_) h2
  unfold opA
  rw [ho]
  simp only [hx, lit]
  unfold convA
  simp only [hi, hj, hs, hd]
  rw [hb]; exact hK
theorem cvI {n : Int} (h : -9223372036854775808 ≤ n ∧ n ≤ 9223372036854775807) : IntKind.i64.wrap n = n := IntWalk.i64_in n h
theorem cv8 {n : Int} (h : 0 ≤ n ∧ n ≤ 255) : IntKind.u8.wrap n = n := by rw [IntKind.wrap_u8]; omega
end
end Go.Fw

/- Framework, part sa: contracts of the library's slices functions, out of the kit's. Program independent. -/
namespace Go.Fw
open Go.RowKit (Below)
open Go.Shelf
variable {P : Program} {gl : Glob}

/-- What a value that reads as a list of ints is. -/
theorem rep_ints {mv mr : Mem} {v : Value} {xs : List Int} (h : Rep mv mr v (.ints xs)) : (xs = [] ∧ ∃ a cap, v = .slice a 0 cap) ∨
    ∃ b o cap, v = .slice (some ⟨b, o, none⟩) xs.length cap ∧ xs.length ≤ cap ∧ 0 < xs.length ∧ ∀ j, j < xs.length → mv b (o + j) = some (.int .i64 (xs.getD j 0)) := by
  cases h with
  | empty a cap hv h0 => exact .inl ⟨List.length_eq_zero_iff.1 h0, a, cap, rfl⟩
  | view b o cap z f hv hpos hz hcap hl hc hr =>
    have hpos : 0 < xs.length := hpos
    obtain ⟨e0, he0⟩ := SC.elem_of_lt (c := .ints xs) hpos
    have hz1 : z = 1 := by
      rw [← hl 0 e0 he0]
      simp [SC.elem] at he0
      obtain ⟨a, _, rfl⟩ := he0
      rfl
    subst hz1
    refine .inr ⟨b, o, cap, rfl, hcap, hpos, fun j hj => ?_⟩
    have h1 := hc j (by simpa [SC.len] using hj)
    have h2 := hr j [.lit (.int .i64 (xs.getD j 0))] 0 (.lit (.int .i64 (xs.getD j 0))) (by simp [SC.elem, List.getElem?_eq_getElem hj, List.getD_eq_getElem?_getD]) rfl
    rw [h1]
    simp only [Nat.mul_one, Nat.add_zero] at h2
    rw [rep_lit h2]

theorem repL_one {mv mr : Mem} {vs : Array Value} {c : SC} (h : RepL mv mr vs [(false, [c])]) : ∃ v, vs = #[v] ∧ Rep mv mr v c := by
  obtain ⟨h1, h2⟩ := h
  obtain ⟨c', e, hr⟩ := h2 0 _ rfl
  simp at e
  subst e
  refine ⟨vs.getD 0 undef, ?_, hr⟩
  have h1 : vs.size = 1 := h1
  apply Array.ext
  · simp [h1]
  · intro i hi _
    obtain rfl : i = 0 := by omega
    simp [Array.getD_eq_getD_getElem?, h1]

theorem below_ahead (w : World) (n : Nat) : Below w.heap.size w (Sort.ahead w n) := ⟨rfl, rfl, rfl, Nat.le_refl _, fun _ _ => rfl⟩

theorem putRow_setRow {enc : Int → Value} {w : World} {b : Nat} {arr : Array Value} {T : TypeId} (h : w.heap[b]? = some (.cells arr T)) (d : Array Int) : Sort.putRow enc w b 0 d = w.setRow b (Sort.putCells enc 0 d arr) := by
  have hlt : b < w.heap.size := (Array.getElem?_eq_some_iff.1 h).1
  have hv : w.heap[b] = .cells arr T := (Array.getElem?_eq_some_iff.1 h).2
  unfold Sort.putRow Sort.mapBlock World.setRow
  congr 1
  apply Array.ext
  · simp
  · intro i h1 h2
    simp only [Array.getElem_modify]
    by_cases hi : b = i
    · subst hi
      simp only [if_true, hv, Sort.onCells]
    · simp only [hi, if_false]

/-- slices.Reverse. -/
theorem reverse_upd {ρ : Ren} (L : Proofs.Lays.n112 P ρ) (hok : fnOk P (ρ.f 112) = true) (xs : List Int) (hl : xs.length ≤ 9223372036854775807) : Sat P gl (ρ.f 112) [(false, [.ints xs])] (.upd 1 (.ints xs.reverse)) := by
  refine .inr ⟨.ints xs, rfl, hok, rfl, by simp [SC.len], ?_, ?_, ?_⟩
  · intro i e he
    simp [SC.elem] at he
    obtain ⟨a, _, rfl⟩ := he
    rfl
  · intro h0 w
    refine (Proofs.Any.slices_Reverse_int_empty L none 0 w).mono fun e w' he => ?_
    obtain ⟨rfl, rfl⟩ := he
    exact ⟨rfl, Below.refl _ _⟩
  · intro mv w b cap arr T hb hsz hcap hr
    have hcap : xs.length ≤ cap := hcap
    have hsz : arr.size = cap := by omega
    have hget : ∀ j, j < xs.length → arr[j]? = some (.int .i64 (xs.getD j 0)) := by
      intro j hj
      have h2 := hr j [.lit (.int .i64 (xs.getD j 0))] 0 (.lit (.int .i64 (xs.getD j 0))) (by simp [SC.elem, List.getElem?_eq_getElem hj, List.getD_eq_getElem?_getD]) rfl
      simp only [Nat.mul_one, Nat.add_zero] at h2
      have hj' : j < arr.size := by omega
      have e : arr.getD j undef = arr[j] := by simp [Array.getD_eq_getD_getElem?, hj']
      rw [e] at h2
      rw [Array.getElem?_eq_getElem hj', rep_lit h2]
    have hH : Sort.Holds (Value.int .i64) w b 0 xs.toArray := by
      intro j hj
      have hj : j < xs.length := by simpa using hj
      constructor
      · simp only [World.cell?, hb, Nat.zero_add]
        rw [hget j hj]
        simp [List.getD_eq_getElem?_getD, hj]
      · simp [World.frozen?, hb]
    refine (Proofs.Any.slices_Reverse_int L b 0 cap xs w hH hl).mono fun e w' he => ?_
    obtain ⟨rfl, n, rfl⟩ := he
    have hb1 : (Sort.ahead w n).heap[b]? = some (.cells arr T) := hb
    refine ⟨rfl, Sort.ahead w n, Sort.putCells (Value.int .i64) 0 xs.reverse.toArray arr, below_ahead w n, putRow_setRow hb1 _, by simp [Sort.putCells], ?_⟩
    intro i e j x he hx
    simp only [SC.elem, Option.map_eq_some_iff] at he
    obtain ⟨a, ha, rfl⟩ := he
    have hi : i < xs.length := by have := (List.getElem?_eq_some_iff.1 ha).1; simpa using this
    cases j with
    | zero =>
      simp at hx
      subst hx
      have hi' : i < arr.size := by omega
      have hg : (Sort.putCells (Value.int .i64) 0 xs.reverse.toArray arr)[i]? = some (.int .i64 a) := by
        simp only [Sort.putCells, Array.getElem?_mapIdx, Array.getElem?_eq_getElem hi', Option.map_some, Nat.zero_le, true_and, Nat.zero_add, Nat.sub_zero]
        rw [if_pos (by simpa using hi)]
        have : xs.reverse.toArray[i]! = a := by
          rw [getElem!_pos _ _ (by simpa using hi)]
          have := (List.getElem?_eq_some_iff.1 ha).2
          simpa using this
        rw [this]
      simp only [Nat.mul_one, Nat.add_zero]
      rw [Array.getD_eq_getD_getElem?, hg]
      exact .lit rfl
    | succ j => simp at hx

/-- slices.Clone of ints, some. -/
theorem clone_own {ρ : Ren} (L : Proofs.Lays2.n15 P ρ) (hok : fnOk P (ρ.f 15) = true) (xs : List Int) (h0 : 0 < xs.length) (hl : xs.length ≤ 4294967296) : Sat P gl (ρ.f 15) [(false, [.ints xs])] (.own 1 (.ints xs)) := by
  refine .inl ⟨hok, fun mv w vs hmv _ hvs => ?_⟩
  obtain ⟨v, rfl, hr⟩ := repL_one hvs
  rcases rep_ints hr with ⟨rfl, _⟩ | ⟨b, o, cap, rfl, hcap, _, hc⟩
  · simp at h0
  refine (Proofs.Any.slices_Clone_int L b o xs.length cap xs w (Nat.le_refl _) (by omega) fun j hj => hmv _ _ _ (hc j hj)).mono fun e w' he => ?_
  obtain ⟨v', rfl, ⟨hlen, hown⟩, hnn, hbel⟩ := he
  refine ⟨v', rfl, hbel, ?_⟩
  rcases hown with ⟨rfl, _⟩ | ⟨g, cp, cur, rfl, hg, hh, hn, _, hsz, htk⟩
  · exact absurd rfl hnn
  refine .inr ⟨g, cp, rfl, hg, cur, _, hh, by simpa using hsz, by omega, rfl, hn, ?_, ?_⟩
  · intro i e he
    simp [SC.elem] at he
    obtain ⟨a, _, rfl⟩ := he
    rfl
  · intro i e j x he hx
    simp only [SC.elem, Option.map_eq_some_iff] at he
    obtain ⟨a, ha, rfl⟩ := he
    have hi : i < xs.length := (List.getElem?_eq_some_iff.1 ha).1
    cases j with
    | zero =>
      simp at hx
      subst hx
      have hg : cur[i]? = some (.int .i64 a) := by
        have e1 : (cur.toList.take (xs.length * 1))[i]? = ((xs.take xs.length).map (Value.int .i64))[i]? := by rw [htk]
        rw [List.getElem?_take_of_lt (by omega), List.take_length, List.getElem?_map, ha] at e1
        simpa using e1
      simp only [Nat.mul_one, Nat.add_zero]
      rw [Array.getD_eq_getD_getElem?, hg]
      exact .lit rfl
    | succ j => simp at hx

/-- slices.Grow of nil. -/
theorem grow_nil {ρ : Ren} (L : Proofs.Lays8.n4 P ρ) (hok : fnOk P (ρ.f 4) = true) {i0 : TypeInfo} {z : Value} (hi0 : P.info? (ρ.t 25) = some i0) (hz0 : i0.zero = some z) (hs0 : i0.size = 1) (hzc : z.cells.size = 1) (hb0 : i0.bytes = 8) (n : Int) (hn : 0 ≤ n ∧ n ≤ 4294967296) :
    SatN P gl (ρ.f 4) [(false, [.nil]), (false, [.st (.lit (.int .i64 n))])] (.own 1 (.ints [])) := by
  refine ⟨hok, fun mv w vs hmv _ hsz hvs => ?_⟩
  obtain ⟨m, rfl⟩ : ∃ m : Nat, n = m := ⟨n.toNat, by omega⟩
  have hsz : vs.size = 2 := hsz
  have e0 : vs.getD 0 undef = .slice none 0 0 := by
    obtain ⟨d, hd, h⟩ := hvs 0 _ rfl
    simp at hd; subst hd; exact h
  have e1 : vs.getD 1 undef = .int .i64 m := by
    obtain ⟨d, hd, h⟩ := hvs 1 _ rfl
    simp at hd; subst hd
    exact rep_lit h
  have hvs : vs = #[.slice none 0 0, .int .i64 m] := by
    apply Array.ext
    · simp [hsz]
    · intro i hi _
      rcases (show i = 0 ∨ i = 1 by omega) with rfl | rfl
      · rw [Array.getD_eq_getD_getElem?, Array.getElem?_eq_getElem hi] at e0; simpa using e0
      · rw [Array.getD_eq_getD_getElem?, Array.getElem?_eq_getElem hi] at e1; simpa using e1
  subst hvs
  by_cases h0 : m = 0
  · subst h0
    refine (Proofs.Any8.slices_Grow_room L none 0 0 0 w (by omega) (by omega) (by omega) (by omega)).mono fun e w' he => ?_
    obtain ⟨rfl, rfl⟩ := he
    exact ⟨_, rfl, Below.refl _ _, .inl ⟨rfl, rfl, rfl, by omega, fun i e he => by simp [SC.elem] at he⟩⟩
  · refine (Proofs.Any8.slices_Grow_grow L i0 z hi0 hz0 (by omega) none 0 0 m [] w (by omega) (by omega) (by rw [hb0]; omega) (by omega) (by simp) (by simp) (by simp)).mono fun e w' he => ?_
    obtain ⟨rfl, rfl⟩ := he
    have hge := grownCap_ge w (0 + m) 0 (ρ.t 25)
    refine ⟨_, rfl, (Below.refl w.heap.size w).drew.trans (Below.alloc1 w.drew _), .inr ⟨w.heap.size, _, rfl, Nat.le_refl _, _, _, alloc_at w.drew _, ?_, by omega, rfl, by simp [SC.len], fun i e he => by simp [SC.elem] at he, fun i e j x he _ => by simp [SC.elem] at he⟩⟩
    rw [Nat.zero_add] at hge
    simp only [Array.size_append, Builtin.zeroCells, Array.size_map, Array.size_range, hzc, Nat.zero_add]
    simp
    omega

/-- A row of which a view is given away ahead. -/
theorem freeze_sub {E : Env} {Hh : Hp} {nx : Nat} (id : Nat) {m : Bool} {z : Nat} {c : SC} (hb : Hh.get id = some (.row m z c)) : Sub ⟨E, Hh, nx⟩ ⟨E, (id, some (.row false z c)) :: Hh, nx⟩ := by
  rintro F nt a w ⟨N, ⟨q1, q2, q0, β, q3, q4⟩, q5⟩
  have hg : Give { P := default, gl := [], ty := [] } Hh.get [(id, some (.row false z c))] := Give.of_freeze fun p hp => by
    rw [List.mem_singleton] at hp; subst hp
    exact ⟨m, z, c, hb, rfl⟩
  have ht : Tr F β N Hh.get w β N (Hp.on [(id, some (.row false z c))] Hh.get) w := hg.soft.tr
  refine ⟨N, ⟨q1, q2, q0, β, ?_, ?_⟩, q5⟩
  · have := ht.env q4 q3
    rwa [← Hp.get_append] at this
  · have := hg.heap q4
    rwa [← Hp.get_append] at this

/-- The nil slice, as a row of its own that is empty. -/
theorem nil_sub {E : Env} {Hh : Hp} {nx : Nat} (s z : Nat) (c : SC) (hz : 0 < z) (hv : c.isView = true) (h0 : c.len = 0) (hE : E.get s = some (one .nil)) :
    Sub ⟨E, Hh, nx⟩ ⟨(s, some (one (.own (2 * nx)))) :: E, ((2 * nx), some (.row true z c)) :: Hh, nx + 1⟩ := by
  rintro F nt a w ⟨N, ⟨q1, q2, q0, β, q3, q4⟩, q5⟩
  have hf : ¬ N (2 * nx) := fun h => by have := q5 _ h; rw [tag_even] at this; exact Nat.lt_irrefl _ this
  have hu : ∀ i e, c.elem i = some e → e.length = z := fun i e he => by have := SC.elem_lt he; omega
  have t2 := Tr.new q4 (Below.refl _ w) hf none (by simp) (.row true z c)
  have hN := HeapRel.new q4 (Below.refl _ w) hf none (by simp) (.row true z c) ⟨⟨hz, hv, hu⟩, .inl ⟨by simp [setB], h0⟩⟩
  rw [← Hp.get_cons] at t2 hN
  refine ⟨Fw.setN N (2 * nx), ⟨q1, q2, q0, setB β (2 * nx) none, ?_, hN⟩, fun id h => ?_⟩
  · intro u dv hu
    rw [Env.get_cons] at hu
    simp only at hu
    split at hu
    · rename_i e
      subst e
      cases hu
      have hnil : a.tmps.getD u undef = .slice none 0 0 := (q3 u _ hE).one_inv
      refine repOne ⟨.inr rfl, by rw [hnil]; rfl, fun blk0 z' n' hb hz' => ?_⟩
      rw [Hp.get_cons, updH_same] at hb
      cases hb; cases hz'
      exact .inl ⟨by simp [setB], h0, hnil⟩
    · exact t2.env q4 q3 u dv hu
  · rcases h with h | h
    · exact Nat.lt_succ_of_lt (q5 _ h)
    · rw [h, tag_even]; exact Nat.lt_succ_self _

end Go.Fw

/- Framework, part sb: contracts of the library's functions on strings, out of the kit's. Program independent. -/
namespace Go.Fw
open Go.RowKit (Below)
open Go.Shelf
variable {P : Program} {gl : Glob}

abbrev SS (l : List UInt8) : SV := (false, [.lit (.string (B l))])

theorem repL_two {mv mr : Mem} {vs : Array Value} {c d : SC} (h : RepL mv mr vs [(false, [c]), (false, [d])]) : ∃ v u, vs = #[v, u] ∧ Rep mv mr v c ∧ Rep mv mr u d := by
  obtain ⟨h1, h2⟩ := h
  obtain ⟨c', e, hr⟩ := h2 0 _ rfl
  obtain ⟨d', e', hr'⟩ := h2 1 _ rfl
  simp at e e'
  subst e e'
  refine ⟨vs.getD 0 undef, vs.getD 1 undef, ?_, hr, hr'⟩
  have h1 : vs.size = 2 := h1
  apply Array.ext
  · simp [h1]
  · intro i hi _
    rcases (show i = 0 ∨ i = 1 by omega) with rfl | rfl <;> simp [Array.getD_eq_getD_getElem?, h1]

theorem rd_heap {w : World} {b o : Nat} {v : Value} (h : rd w b o = some v) : ∃ arr T fr, w.heap[b]? = some (.cells arr T fr) ∧ arr[o]? = some v := by
  unfold rd World.cell? at h
  simp only at h
  split at h
  · rename_i arr T fr e
    exact ⟨arr, T, fr, e, h⟩
  · cases h

/-- A laid table of numbers. -/
theorem tab_is {w : World} {name : String} {g : Nat} {k : IntKind} {zs : List Int} (hn : P.globalNamed name = some g) (hg : (g, zs.map fun z => .lit (.int k z)) ∈ gl) (hG : GlobOK gl (rd w)) (h0 : 0 < zs.length) : Lib.TabIs P w name k zs := by
  obtain ⟨h1, h2⟩ := hG _ _ hg
  have h2 := h2 (by simpa using h0)
  rw [List.length_map] at h2
  obtain ⟨v0, hv0, _⟩ := h1 0 (.lit (.int k zs[0])) (by simp [h0])
  obtain ⟨arr, T, fr, hb, _⟩ := rd_heap hv0
  unfold Lib.TabIs World.var?
  rw [hn]
  simp only [Option.bind_some, hb]
  congr 1
  have hget : ∀ o, rd w g o = arr[o]? := fun o => by simp [rd, World.cell?, hb]
  apply Array.ext'
  rw [List.toList_toArray]
  apply List.ext_getElem?
  intro i
  rw [Array.getElem?_toList, List.getElem?_map]
  by_cases hi : i < zs.length
  · obtain ⟨v, hv, hr⟩ := h1 i (.lit (.int k zs[i])) (by simp [hi])
    rw [hget] at hv
    rw [hv, rep_lit hr, List.getElem?_eq_getElem hi]
    rfl
  · rw [hget] at h2
    have : arr.size ≤ zs.length := by simpa using h2
    rw [List.getElem?_eq_none (by omega : zs.length ≤ i), Array.getElem?_eq_none (by omega)]
    rfl

theorem itoa_gen {ρ : Ren} (L : Proofs.LaysM.n171 P ρ) (hok : fnOk P (ρ.f 171) = true) {g : Nat} (hn : P.globalNamed "internal/strconv.uint64pow10" = some g) (hg : (g, Lib.pow10Tab.map fun z => .lit (.int .u64 z)) ∈ gl)
    (n : Int) (h : -9223372036854775808 ≤ n ∧ n ≤ 9223372036854775807) : Sat P gl (ρ.f 171) [(false, [.lit (.int .i64 n)])] (.one (SS (Lib.itoa n))) := by
  refine .inl ⟨hok, fun mv w vs _ hG hvs => ?_⟩
  obtain ⟨v, rfl, hr⟩ := repL_one hvs
  rw [rep_lit hr]
  refine (Proofs.Any.strconv_Itoa L n h.1 h.2 w (tab_is hn hg hG (by rw [Lib.pow10Tab_length]; decide))).mono fun e w' he => ?_
  obtain ⟨rfl, k, os, rfl⟩ := he
  exact ⟨_, rfl, Lib.below_grow _ w (Nat.le_refl _) k os, ⟨_, rfl, .lit rfl⟩⟩

theorem atoi_ok {ρ : Ren} (L : Proofs.LaysC.n172 P ρ) (hok : fnOk P (ρ.f 172) = true) (s : List UInt8) (hl : s.length ≤ 1000000) {v : Int} (h : Lib.atoiAll s = .ok v) : Sat P gl (ρ.f 172) [SS s] (.tup [(false, [.lit (.int .i64 v)]), (false, [.lit .nilIface])]) := by
  refine .inl ⟨hok, fun mv w vs _ hG hvs => ?_⟩
  obtain ⟨x, rfl, hr⟩ := repL_one hvs
  rw [rep_lit hr]
  refine (Proofs.Any.strconv_Atoi_ok L (B s) (by rw [B_size]; omega) v (by rw [B_data]; exact h) w).mono fun e w' he => ?_
  obtain ⟨rfl, hw⟩ := he
  refine ⟨_, rfl, ?_, #[.int .i64 v, .nilIface], rfl, rfl, fun k x hk => ?_⟩
  · rcases hw with rfl | ⟨t, rfl⟩
    · exact Below.refl _ _
    · exact Lib.bytesWorld_below w _ t
  · match k, hk with
    | 0, hk => simp at hk; subst hk; exact ⟨_, rfl, .lit rfl⟩
    | 1, hk => simp at hk; subst hk; exact ⟨_, rfl, .lit rfl⟩
    | k + 2, hk => simp at hk

theorem atoi_bad {ρ : Ren} (L : Proofs.LaysC.n172 P ρ) (hok : fnOk P (ρ.f 172) = true) (h15 : (ρ.g 15, [SC.err]) ∈ gl) (h16 : (ρ.g 16, [SC.err]) ∈ gl) (s : List UInt8) (hl : s.length ≤ 1000000) (h : ∀ v, Lib.atoiAll s ≠ .ok v) :
    ∃ v, Sat P gl (ρ.f 172) [SS s] (.tup [(false, [.lit (.int .i64 v)]), (false, [.err])]) := by
  have key : ∀ (v : Int) (g : Nat), (g, [SC.err]) ∈ gl → (∀ (ev : Value) (w : World), w.cell? ⟨g, 0, none⟩ = some ev → (ev = .nilIface ∨ ∃ te pe, ev = .iface te pe) → Calls P (ρ.f 172) #[.string (B s)] w fun e w' => ∃ N, e = .returned (.tuple #[.int .i64 v, .iface (ρ.t 168) (.pointer (some ⟨N, 0, none⟩))]) ∧ w.heap.size ≤ N ∧ w'.heap[N]? = some (.cells #[.string ⟨#[65, 116, 111, 105]⟩, .string (B s), ev] (ρ.t 210) (0, 0)) ∧ Below w.heap.size w w') →
      Sat P gl (ρ.f 172) [SS s] (.tup [(false, [.lit (.int .i64 v)]), (false, [.err])]) := by
    intro v g hg hc
    refine .inl ⟨hok, fun mv w vs _ hG hvs => ?_⟩
    obtain ⟨x, rfl, hr⟩ := repL_one hvs
    rw [rep_lit hr]
    obtain ⟨ev, h1, h2⟩ := (hG _ _ hg).1 0 _ rfl
    have hev : ∃ T x, ev = .iface T x := by
      cases h2 with
      | err h => exact h
      | empty a cap hv => simp [SC.isView] at hv
      | view _ _ _ _ _ hv => simp [SC.isView] at hv
    refine (hc ev w h1 (.inr hev)).mono fun e w' he => ?_
    obtain ⟨N, rfl, _, _, hb⟩ := he
    refine ⟨_, rfl, hb, _, rfl, rfl, fun k x hk => ?_⟩
    match k, hk with
    | 0, hk => simp at hk; subst hk; exact ⟨_, rfl, .lit rfl⟩
    | 1, hk => simp at hk; subst hk; exact ⟨_, rfl, .err ⟨_, _, rfl⟩⟩
    | k + 2, hk => simp at hk
  rcases hs : Lib.atoiAll s with v | _ | _
  · exact absurd hs (h v)
  · exact ⟨0, key 0 _ h15 fun ev w h1 h2 => Proofs.Any.strconv_Atoi_syntax L (B s) (by rw [B_size]; omega) (by rw [B_data]; exact hs) ev w h1 h2⟩
  · refine ⟨Lib.atoiSat s, key _ _ h16 fun ev w h1 h2 => ?_⟩
    have := Proofs.Any.strconv_Atoi_range L (B s) (by rw [B_size]; omega) (by rw [B_data]; exact hs) ev w h1 h2
    rw [B_data] at this
    exact this

theorem trimPrefix_gen {ρ : Ren} (L : Proofs.Lays.n101 P ρ) (hok : fnOk P (ρ.f 101) = true) (s p : List UInt8) : Sat P gl (ρ.f 101) [SS s, SS p] (.one (SS (Lib.trimPrefix s p))) := by
  refine .inl ⟨hok, fun mv w vs _ hG hvs => ?_⟩
  obtain ⟨x, y, rfl, hr, hr'⟩ := repL_two hvs
  rw [rep_lit hr, rep_lit hr']
  refine (Proofs.Any.strings_TrimPrefix L (B s) (B p) w).mono fun e w' he => ?_
  obtain ⟨rfl, rfl⟩ := he
  rw [B_data, B_data]
  exact ⟨_, rfl, Below.refl _ _, ⟨_, rfl, .lit rfl⟩⟩

/-- The pieces of a string between the places of a byte, as the library cuts it. -/
def cutS (s : List UInt8) (c : UInt8) : List (List UInt8) := Lib.splitK [c] 0 (Lib.countB (B s) (B [c])) s
abbrev strs (l : List (List UInt8)) : List (List SC) := l.map fun w => [.lit (.string (B w))]

theorem strs_elem {l : List (List UInt8)} {i : Nat} {e : List SC} (h : (SC.view (strs l)).elem i = some e) : ∃ w, l[i]? = some w ∧ e = [.lit (.string (B w))] := by
  simp only [SC.elem, List.getElem?_map, Option.map_eq_some_iff] at h
  obtain ⟨w, h1, h2⟩ := h
  exact ⟨w, h1, h2.symm⟩

theorem split_gen {ρ : Ren} (L : Proofs.Lays.n146 P ρ) (hok : fnOk P (ρ.f 146) = true) (hi9 : (P.info? (ρ.t 9)).map (fun i => (i.zero, i.size, i.bytes)) = some (some (.string ByteArray.empty), 1, 16))
    (hg : (ρ.g 1, [SC.num .i64]) ∈ gl) (s : List UInt8) (c : UInt8) (hl : s.length ≤ 1000000) (hlen : (cutS s c).length = Lib.countB (B s) (B [c]) + 1) : Sat P gl (ρ.f 146) [SS s, SS [c]] (.own 1 (.view (strs (cutS s c)))) := by
  refine .inl ⟨hok, fun mv w vs _ hG hvs => ?_⟩
  obtain ⟨x, y, rfl, hr, hr'⟩ := repL_two hvs
  rw [rep_lit hr, rep_lit hr']
  obtain ⟨ev, h1, h2⟩ := (hG _ _ hg).1 0 _ rfl
  have hev : ∃ m, ev = .int .i64 m := by
    cases h2 with
    | num h => exact h
    | empty a cap hv => simp [SC.isView] at hv
    | view _ _ _ _ _ hv => simp [SC.isView] at hv
  obtain ⟨m, rfl⟩ := hev
  refine (Proofs.Any.strings_Split L hi9 (B s) (B [c]) m w (by rw [B_size]; omega) h1 (by rw [B_size]; exact Nat.le_refl 1)).mono fun e w' he => ?_
  obtain ⟨rfl, rfl⟩ := he
  have hsp : (Lib.splitB (B [c]) 0 (Lib.countB (B s) (B [c])) (B s)) = (cutS s c).map B := by
    have h := Lib.splitB_data (B [c]) 0 (Lib.countB (B s) (B [c])) (B s)
    rw [B_data, B_data] at h
    have : (cutS s c).map B = ((Lib.splitB (B [c]) 0 (Lib.countB (B s) (B [c])) (B s)).map (·.data.toList)).map B := by rw [h]; rfl
    rw [this, List.map_map]
    have e : (B ∘ fun x : ByteArray => x.data.toList) = id := by funext x; exact B_of x
    rw [e, List.map_id]
  rw [hsp]
  refine ⟨_, rfl, Below.alloc1 _ _, .inr ⟨w.heap.size, _, by rw [show (SC.view (strs (cutS s c))).len = Lib.countB (B s) (B [c]) + 1 by simp [SC.len, hlen]], Nat.le_refl _, _, _, alloc_at w _, by simp [hlen], by decide, rfl, by simp [SC.len, hlen], fun i e he => ?_, fun i e j x he hx => ?_⟩⟩
  · obtain ⟨u, _, rfl⟩ := strs_elem he; rfl
  · obtain ⟨u, hu, rfl⟩ := strs_elem he
    cases j with
    | zero =>
      simp at hx; subst hx
      rw [show i * 1 + 0 = i by omega, Array.getD_eq_getD_getElem?]
      have : (((cutS s c).map B).map Value.string).toArray[i]? = some (.string (B u)) := by simp [hu]
      rw [this]
      exact .lit rfl
    | succ j => simp at hx

theorem join_gen {ρ : Ren} (L : Proofs.Lays.n156 P ρ) (X : Proofs.Builder.Extra P ρ) (hok : fnOk P (ρ.f 156) = true) (l : List (List UInt8)) (c : UInt8) (hl : l.length ≤ 1000000) (hlen : (Lib.join l [c]).length ≤ 1000000000) :
    Sat P gl (ρ.f 156) [(false, [.view (strs l)]), SS [c]] (.one (SS (Lib.join l [c]))) := by
  refine .inl ⟨hok, fun mv w vs hmv hG hvs => ?_⟩
  obtain ⟨x, y, rfl, hr, hr'⟩ := repL_two hvs
  rw [rep_lit hr']
  cases hr with
  | empty a cap hv h0 =>
    have : l = [] := by simpa [SC.len] using h0
    subst this
    refine (Proofs.Any.strings_Join_none L X a cap (B [c]) w).mono fun e w' he => ?_
    obtain ⟨rfl, rfl⟩ := he
    exact ⟨_, rfl, Below.refl _ _, ⟨_, rfl, .lit rfl⟩⟩
  | view b o cap z f hv hpos hz hcap hel hc hrr =>
    have hpos : 0 < l.length := by simpa [SC.len] using hpos
    obtain ⟨e0, he0⟩ := SC.elem_of_lt (c := .view (strs l)) (i := 0) (by simpa [SC.len] using hpos)
    have hz1 : z = 1 := by
      rw [← hel 0 e0 he0]
      obtain ⟨u, _, rfl⟩ := strs_elem he0
      rfl
    subst hz1
    have hlen' : (SC.view (strs l)).len = (l.map B).length := by simp [SC.len]
    have hcells : ∀ (j : Nat) x, (l.map B)[j]? = some x → w.cell? ⟨b, o + j, none⟩ = some (.string x) := by
      intro j x hj
      rw [List.getElem?_map] at hj
      cases hu : l[j]? with
      | none => rw [hu] at hj; cases hj
      | some u =>
        rw [hu] at hj
        simp at hj
        subst hj
        have hjl : j < l.length := (List.getElem?_eq_some_iff.1 hu).1
        have h1 := hc j (by simpa [SC.len] using hjl)
        have h2 := hrr j [.lit (.string (B u))] 0 (.lit (.string (B u))) (by simp [SC.elem, hu]) rfl
        rw [show j * 1 + 0 = j by omega] at h2
        rw [rep_lit h2] at h1
        exact hmv _ _ _ h1
    have hdata : (l.map B).map (·.data.toList) = l := by
      rw [List.map_map]
      have e : ((fun x : ByteArray => x.data.toList) ∘ B) = id := by funext x; exact B_data x
      rw [e, List.map_id]
    have hbk : b < w.heap.size := World.block_lt_of_cell? _ _ (hcells 0 (B l[0]) (by simp [hpos]))
    rw [hlen']
    refine (Proofs.Any.strings_Join L X b o cap (l.map B) (B [c]) w hcells hbk (by simp; omega) (by simpa [SC.len] using hcap) (by rw [hdata, B_data]; omega)).mono fun e w' he => ?_
    obtain ⟨rfl, hb⟩ := he
    rw [hdata, B_data]
    exact ⟨_, rfl, hb, ⟨_, rfl, .lit rfl⟩⟩
end Go.Fw

/- Plain facts: decimal strings, and strings cut at a byte. -/
namespace Go.Plain
open Go.Lib
abbrev Bytes := List UInt8
def isDig (b : UInt8) : Prop := 48 ≤ b.toNat ∧ b.toNat ≤ 57
instance (b : UInt8) : Decidable (isDig b) := inferInstanceAs (Decidable (_ ∧ _))
/-- What digits spell behind a number. -/
def digV (acc : Nat) : Bytes → Nat
  | [] => acc
  | b :: r => digV (10 * acc + (b.toNat - 48)) r
theorem digV_app (acc : Nat) (a b : Bytes) : digV acc (a ++ b) = digV (digV acc a) b := by
  induction a generalizing acc with
  | nil => rfl
  | cons x a ih => exact ih _
theorem digV_mono {acc : Nat} {l : Bytes} : acc ≤ digV acc l := by
  induction l generalizing acc with
  | nil => exact Nat.le_refl _
  | cons x l ih => exact Nat.le_trans (by omega) (ih (acc := 10 * acc + (x.toNat - 48)))
theorem digV_lt : ∀ (l : Bytes) (acc : Nat), (∀ b ∈ l, isDig b) → digV acc l < (acc + 1) * 10 ^ l.length
  | [], acc, _ => by
    show acc < (acc + 1) * 1
    omega
  | b :: l, acc, h => by
    have h1 := h b (List.mem_cons_self ..)
    have := digV_lt l (10 * acc + (b.toNat - 48)) fun x hx => h x (List.mem_cons_of_mem _ hx)
    have h0 : 10 * acc + (b.toNat - 48) + 1 ≤ (acc + 1) * 10 := by unfold isDig at h1; omega
    have h2 : (10 * acc + (b.toNat - 48) + 1) * 10 ^ l.length ≤ (acc + 1) * 10 * 10 ^ l.length := Nat.mul_le_mul_right _ h0
    rw [List.length_cons, Nat.pow_succ]
    have e : (acc + 1) * (10 ^ l.length * 10) = (acc + 1) * 10 * 10 ^ l.length := by ac_rfl
    rw [e]
    exact Nat.lt_of_lt_of_le this h2
theorem dig_byte {d : Nat} (h : d < 10) : (UInt8.ofNat (48 + d)).toNat = 48 + d := by
  simp [UInt8.toNat_ofNat]; omega
theorem dig_back {b : UInt8} (h : isDig b) : UInt8.ofNat (48 + (b.toNat - 48)) = b := by
  unfold isDig at h
  rw [show 48 + (b.toNat - 48) = b.toNat by omega]
  exact UInt8.ofNat_toNat ..
theorem dec_dig : ∀ (u : Nat), ∀ b ∈ decDigits u, isDig b := by
  intro u
  induction u using Nat.strongRecOn with
  | _ u ih =>
    intro b hb
    rw [decDigits] at hb
    split at hb
    · rw [List.mem_singleton] at hb; subst hb
      unfold isDig; rw [dig_byte (by omega)]; omega
    · rcases List.mem_append.1 hb with hb | hb
      · exact ih _ (by omega) b hb
      · rw [List.mem_singleton] at hb; subst hb
        unfold isDig; rw [dig_byte (by omega)]; omega
theorem dec_val : ∀ (u : Nat), digV 0 (decDigits u) = u := by
  intro u
  induction u using Nat.strongRecOn with
  | _ u ih =>
    rw [decDigits]
    split
    · rename_i h
      show 10 * 0 + ((UInt8.ofNat (48 + u)).toNat - 48) = u
      rw [dig_byte h]; omega
    · rename_i h
      rw [digV_app, ih _ (by omega)]
      show 10 * (u / 10) + ((UInt8.ofNat (48 + u % 10)).toNat - 48) = u
      rw [dig_byte (by omega)]; omega
theorem dec_ne (u : Nat) : decDigits u ≠ [] := by
  rw [decDigits]; split <;> simp
/-- The first digit of a number above 0 is no 0. -/
theorem dec_head : ∀ {u : Nat}, 0 < u → ∃ b r, decDigits u = b :: r ∧ b.toNat ≠ 48 := by
  intro u
  induction u using Nat.strongRecOn with
  | _ u ih =>
    intro h0
    rw [decDigits]
    split
    · rename_i h
      exact ⟨_, _, rfl, by rw [dig_byte h]; omega⟩
    · rename_i h
      obtain ⟨b, r, e, hb⟩ := ih (u / 10) (by omega) (by omega)
      exact ⟨b, r ++ [_], by rw [e]; rfl, hb⟩
/-- Digits without a 0 ahead are those of what they spell. -/
theorem dec_of : ∀ (l : Bytes) (b : UInt8) (r : Bytes), l = b :: r → (∀ x ∈ l, isDig x) → (b.toNat ≠ 48 ∨ r = []) → decDigits (digV 0 l) = l := by
  intro l
  induction h : l.length using Nat.strongRecOn generalizing l with
  | _ n ih =>
    intro b r e hd hb
    subst e
    rcases List.eq_nil_or_concat r with rfl | ⟨m, x, hr⟩
    · have hb' := hd b (List.mem_cons_self ..)
      have e : digV 0 [b] = b.toNat - 48 := by show 10 * 0 + (b.toNat - 48) = _; omega
      rw [e, decDigits, dif_pos (by unfold isDig at hb'; omega), dig_back hb']
    · rw [List.concat_eq_append] at hr
      subst hr
      have hx : isDig x := hd x (by simp)
      have hm : ∀ y ∈ b :: m, isDig y := fun y hy => hd y (by
        rcases List.mem_cons.1 hy with rfl | hy
        · simp
        · simp [hy])
      have hb1 : b.toNat ≠ 48 := by
        rcases hb with hb | hb
        · exact hb
        · simp at hb
      have i1 := ih (b :: m).length (by simp at h ⊢; omega) (b :: m) rfl b m rfl hm (.inl hb1)
      have hv : digV 0 (b :: (m ++ [x])) = 10 * digV 0 (b :: m) + (x.toNat - 48) := by
        rw [show b :: (m ++ [x]) = (b :: m) ++ [x] from rfl, digV_app]; rfl
      have hpos : 0 < digV 0 (b :: m) := by
        have h1 := hm b (List.mem_cons_self ..)
        have : 10 * 0 + (b.toNat - 48) ≤ digV 0 (b :: m) := digV_mono (acc := 10 * 0 + (b.toNat - 48)) (l := m)
        unfold isDig at h1; omega
      unfold isDig at hx
      show decDigits (digV 0 (b :: (m ++ [x]))) = _
      rw [hv, decDigits, dif_neg (by omega), show (10 * digV 0 (b :: m) + (x.toNat - 48)) / 10 = digV 0 (b :: m) by omega, show (10 * digV 0 (b :: m) + (x.toNat - 48)) % 10 = x.toNat - 48 by omega, i1, dig_back hx]
      rfl
/-! ### Numbers of strings, as the reference parses them -/
def atN (s : Bytes) : Nat := if (s.getD 0 0).toNat = 45 then 1 else 0
def badN (d : Nat) (s : Bytes) : Prop := s.length = atN s ∨ d < s.length - atN s ∨ ((s.getD (atN s) 0).toNat = 48 ∧ 1 < s.length)
instance (d : Nat) (s : Bytes) : Decidable (badN d s) := inferInstanceAs (Decidable (_ ∨ _ ∨ _))
/-- The number that a string spells with at most d digits. -/
def numN (d : Nat) (s : Bytes) : Option Int :=
  if badN d s then none else if ∀ b ∈ s.drop (atN s), isDig b then some (if atN s = 1 then -(digV 0 (s.drop (atN s)) : Int) else (digV 0 (s.drop (atN s)) : Int)) else none
theorem atN_le (s : Bytes) : atN s ≤ s.length := by
  unfold atN
  cases s with
  | nil => simp
  | cons b s => simp only [List.length_cons]; split <;> omega
theorem cut_succ {s : Bytes} {a i : Nat} (h1 : a ≤ i) (h2 : i < s.length) : (s.take (i + 1)).drop a = (s.take i).drop a ++ [s.getD i 0] := by
  have e : s.take (i + 1) = s.take i ++ [s.getD i 0] := by
    rw [List.take_succ_eq_append_getElem h2]
    simp [List.getD_eq_getElem?_getD, h2]
  rw [e, List.drop_append_of_le_length (by simp; omega)]
theorem digV_cut {s : Bytes} {a i : Nat} (h1 : a ≤ i) (h2 : i < s.length) (h3 : isDig (s.getD i 0)) : ((digV 0 ((s.take (i + 1)).drop a) : Nat) : Int) = 10 * ((digV 0 ((s.take i).drop a) : Nat) : Int) + (((s.getD i 0).toNat : Nat) - 48 : Int) := by
  rw [cut_succ h1 h2, digV_app]
  unfold isDig at h3
  show ((10 * digV 0 _ + ((s.getD i 0).toNat - 48) : Nat) : Int) = _
  omega
theorem digV_small {l : Bytes} (h : ∀ b ∈ l, isDig b) (hl : l.length ≤ 18) : (digV 0 l : Int) < 1000000000000000000 := by
  have h1 := digV_lt l 0 h
  have h2 : (0 + 1) * 10 ^ l.length ≤ 10 ^ 18 := by
    rw [Nat.zero_add, Nat.one_mul]
    exact Nat.pow_le_pow_right (by decide) hl
  have e : (10 : Nat) ^ 18 = 1000000000000000000 := by decide
  omega
theorem digV_small7 {l : Bytes} (h : ∀ b ∈ l, isDig b) (hl : l.length ≤ 17) : (digV 0 l : Int) < 100000000000000000 := by
  have h1 := digV_lt l 0 h
  have h2 : (0 + 1) * 10 ^ l.length ≤ 10 ^ 17 := by
    rw [Nat.zero_add, Nat.one_mul]
    exact Nat.pow_le_pow_right (by decide) hl
  have e : (10 : Nat) ^ 17 = 100000000000000000 := by decide
  omega
/-! ### Cut at a byte, as the reference cuts -/
def cutP (s : Bytes) (c : Nat) : Nat → List Bytes × Nat
  | 0 => ([], 0)
  | i + 1 => if (s.getD i 0).toNat = c then ((cutP s c i).1 ++ [(s.take i).drop (cutP s c i).2], i + 1) else cutP s c i
def cutR (s : Bytes) (c : Nat) : List Bytes := (cutP s c s.length).1 ++ [s.drop (cutP s c s.length).2]
theorem cutP_le (s : Bytes) (c : Nat) : ∀ i, (cutP s c i).2 ≤ i ∧ (cutP s c i).1.length ≤ i
  | 0 => ⟨Nat.le_refl _, Nat.le_refl _⟩
  | i + 1 => by
    obtain ⟨h1, h2⟩ := cutP_le s c i
    unfold cutP
    split
    · exact ⟨Nat.le_refl _, by simp; omega⟩
    · exact ⟨by omega, by omega⟩
end Go.Plain

/- Plain facts: the place of a word, words as numbers. -/
namespace Go.Plain
open Go.Lib
def idxI (l : List Bytes) (x : Bytes) : Int := if x ∈ l then (l.idxOf x : Int) else -1
theorem idxI_no {l : List Bytes} {x : Bytes} (h : x ∉ l) : idxI l x = -1 := by unfold idxI; rw [if_neg h]
theorem idxI_at {l : List Bytes} {x : Bytes} {i : Nat} (h : i < l.length) (e : l[i] = x) (hno : x ∉ l.take i) : idxI l x = i := by
  have hm : x ∈ l := by rw [← e]; exact List.getElem_mem h
  unfold idxI
  rw [if_pos hm]
  have : l.idxOf x = i := by
    have hs : l = l.take i ++ x :: l.drop (i + 1) := by
      rw [← e, List.getElem_cons_drop h, List.take_append_drop]
    rw [hs, List.idxOf_append, if_neg hno, List.idxOf_cons_self]
    simp; omega
  rw [this]
/-- What a word is, if it is a number of at most three digits; words as numbers. -/
def numsN : List Bytes → Option (List Int)
  | [] => some []
  | s :: r => match numN 3 s, numsN r with
    | some n, some t => some (n :: t)
    | _, _ => none
theorem numsN_app (a b : List Bytes) : numsN (a ++ b) = match numsN a, numsN b with
    | some x, some y => some (x ++ y)
    | _, _ => none := by
  induction a with
  | nil => show numsN b = _; cases numsN b <;> rfl
  | cons s a ih =>
    show (match numN 3 s, numsN (a ++ b) with | some n, some t => some (n :: t) | _, _ => none) = (match (match numN 3 s, numsN a with | some n, some t => some (n :: t) | _, _ => none), numsN b with | some x, some y => some (x ++ y) | _, _ => none)
    rw [ih]
    cases numN 3 s <;> cases numsN a <;> cases numsN b <;> rfl
theorem numsN_snoc {l : List Bytes} {i : Nat} (h : i < l.length) {xs : List Int} (hx : numsN (l.take i) = some xs) {n : Int} (hn : numN 3 (l.getD i []) = some n) : numsN (l.take (i + 1)) = some (xs ++ [n]) := by
  rw [List.take_add_one, List.getElem?_eq_getElem h, numsN_app, hx]
  have : l.getD i [] = l[i] := by simp [List.getD_eq_getElem?_getD, h]
  rw [this] at hn
  show (match some xs, numsN [l[i]] with | some x, some y => some (x ++ y) | _, _ => none) = _
  have : numsN [l[i]] = some [n] := by unfold numsN; rw [hn]; rfl
  rw [this]
theorem numsN_bad {l : List Bytes} {i : Nat} (h : i < l.length) (hn : numN 3 (l.getD i []) = none) : numsN l = none := by
  have hs : l = l.take i ++ l[i] :: l.drop (i + 1) := by
    rw [List.getElem_cons_drop h, List.take_append_drop]
  have : l.getD i [] = l[i] := by simp [List.getD_eq_getElem?_getD, h]
  rw [this] at hn
  rw [hs, numsN_app]
  have e : numsN (l[i] :: l.drop (i + 1)) = none := by unfold numsN; rw [hn]
  rw [e]
  cases numsN (l.take i) <;> rfl
theorem numsN_len : ∀ {l : List Bytes} {xs : List Int}, numsN l = some xs → xs.length = l.length
  | [], xs, h => by
    have : xs = [] := by simpa [numsN] using h.symm
    simp [this]
  | s :: r, xs, h => by
    unfold numsN at h
    split at h
    · rename_i n t h1 h2
      have : xs = n :: t := by simpa using h.symm
      rw [this, List.length_cons, List.length_cons, numsN_len h2]
    · cases h
end Go.Plain

/- Plain facts: a word is a number of at most d digits just if Atoi reads it, Itoa prints it so, and it is short. -/
namespace Go.Plain
open Go.Lib
theorem pu_dig : ∀ (l : Bytes) (acc : Nat), (∀ b ∈ l, isDig b) → digV acc l < 1000000000000000000 → parseUint10 acc l = .ok (digV acc l)
  | [], _, _, _ => rfl
  | c :: r, acc, h, hl => by
    have hc := h c (List.mem_cons_self ..)
    have h1 : 10 * acc + (c.toNat - 48) ≤ digV (10 * acc + (c.toNat - 48)) r := digV_mono
    have h2 : digV (10 * acc + (c.toNat - 48)) r < 1000000000000000000 := hl
    have ih := pu_dig r (10 * acc + (c.toNat - 48)) (fun b hb => h b (List.mem_cons_of_mem _ hb)) h2
    unfold isDig at hc
    show (if 48 ≤ c.toNat ∧ c.toNat ≤ 57 then if 1844674407370955162 ≤ acc then _ else if 18446744073709551616 ≤ acc * 10 + (c.toNat - 48) then _ else parseUint10 (acc * 10 + (c.toNat - 48)) r else _) = _
    rw [if_pos hc, if_neg (by omega), if_neg (by omega), Nat.mul_comm acc 10, ih]
    rfl
theorem pm_dig {l : Bytes} (h0 : l ≠ []) (h : ∀ b ∈ l, isDig b) (hl : l.length ≤ 18) : parseMag l = .ok (digV 0 l) := by
  unfold parseMag
  rw [if_neg h0]
  exact pu_dig l 0 h (by have := digV_small h hl; omega)
theorem b45 {c : UInt8} (h : c.toNat = 45) : c = 45 := UInt8.toNat_inj.1 h
theorem trim_neg (r : Bytes) : trimPrefix (45 :: r) [45] = r := by
  simp [trimPrefix, hasPrefix]
theorem trim_pos {c : UInt8} (h : c.toNat ≠ 45) (r : Bytes) : trimPrefix (c :: r) [45] = c :: r := by
  have : ¬ (45 : UInt8) = c := fun e => h (by rw [← e]; rfl)
  simp [trimPrefix, hasPrefix, List.isPrefixOf, this]
theorem numN_some {d : Nat} {s : Bytes} {n : Int} (hd : d ≤ 18) (h : numN d s = some n) : atoiAll s = .ok n ∧ itoa n = s ∧ (trimPrefix s [45]).length ≤ d ∧ -9223372036854775808 ≤ n ∧ n ≤ 9223372036854775807 := by
  unfold numN at h
  split at h
  · cases h
  rename_i hb
  split at h
  · rename_i hdg
    cases s with
    | nil => exact absurd (.inl rfl) hb
    | cons c r =>
      by_cases h45 : c.toNat = 45
      · have hc := b45 h45
        subst hc
        have ea : atN (45 :: r) = 1 := rfl
        unfold badN at hb
        rw [ea] at h hb hdg
        simp only [List.length_cons, List.drop_succ_cons, List.drop_zero] at hb hdg h
        simp only [if_true] at h
        have hn : n = -(digV 0 r : Int) := by simpa using h.symm
        cases r with
        | nil => exact absurd (.inl rfl) hb
        | cons b r' =>
          have hb48 : b.toNat ≠ 48 := by
            intro e
            exact hb (.inr (.inr ⟨e, by simp⟩))
          have hlen : (b :: r').length ≤ d := by
            simp only [List.length_cons] at hb ⊢; omega
          have hb1 := hdg b (List.mem_cons_self ..)
          have hpos : 0 < digV 0 (b :: r') := by
            have : 10 * 0 + (b.toNat - 48) ≤ digV 0 (b :: r') := digV_mono (acc := 10 * 0 + (b.toNat - 48)) (l := r')
            unfold isDig at hb1; omega
          have hsm := digV_small hdg (by omega)
          refine ⟨?_, ?_, ?_, ?_⟩
          · rw [atoiAll_minus, pm_dig (by simp) hdg (by omega), hn]
            unfold signed
            dsimp only
            rw [if_neg (by omega)]
          · unfold itoa
            rw [if_pos (by omega), hn]
            have : (-(digV 0 (b :: r') : Int)).natAbs = digV 0 (b :: r') := by omega
            rw [this, dec_of _ b r' rfl hdg (.inl hb48)]
          · rw [trim_neg]; exact hlen
          · omega
      · have ea : atN (c :: r) = 0 := by unfold atN; rw [if_neg (by simpa using h45)]
        unfold badN at hb
        rw [ea] at h hb hdg
        simp only [List.length_cons, List.drop_zero] at hb hdg h
        simp only [Nat.zero_ne_one, if_false] at h
        have hn : n = (digV 0 (c :: r) : Int) := by simpa using h.symm
        have hc1 := hdg c (List.mem_cons_self ..)
        have hc48 : c.toNat ≠ 48 ∨ r = [] := by
          by_cases e : c.toNat = 48
          · right
            cases r with
            | nil => rfl
            | cons b r' => exact absurd (.inr (.inr ⟨by simpa using e, by simp⟩)) hb
          · exact .inl e
        have hlen : (c :: r).length ≤ d := by
          simp only [List.length_cons] at hb ⊢; omega
        have hsm := digV_small hdg (by omega)
        refine ⟨?_, ?_, ?_, ?_⟩
        · rw [atoiAll_plain c r (by unfold isDig at hc1; omega) h45, pm_dig (by simp) hdg (by omega), hn]
          unfold signless
          dsimp only
          rw [if_neg (by omega)]
        · unfold itoa
          rw [if_neg (by omega), hn]
          have : ((digV 0 (c :: r) : Nat) : Int).toNat = digV 0 (c :: r) := by omega
          rw [this, dec_of _ c r rfl hdg hc48]
        · rw [trim_pos h45]; exact hlen
        · omega
  · cases h
theorem numN_back {d : Nat} {n : Int} (h2 : (trimPrefix (itoa n) [45]).length ≤ d) : numN d (itoa n) = some n := by
  unfold itoa at *
  split at h2
  · rename_i h
    rw [trim_neg] at h2
    obtain ⟨b, r, e, hb⟩ := dec_head (u := n.natAbs) (by omega)
    have hdg := dec_dig n.natAbs
    have hv := dec_val n.natAbs
    rw [if_pos h]
    have ea : atN (45 :: decDigits n.natAbs) = 1 := rfl
    have hbad : ¬ badN d (45 :: decDigits n.natAbs) := by
      unfold badN
      rw [ea]
      rintro (h1 | h1 | ⟨h1, _⟩)
      · rw [e] at h1; simp at h1
      · simp only [List.length_cons] at h1; omega
      · rw [e] at h1; exact hb (by simpa using h1)
    unfold numN
    rw [if_neg hbad, ea]
    simp only [List.drop_succ_cons, List.drop_zero, if_true]
    rw [if_pos hdg, hv]
    congr 1; omega
  · rename_i h
    have hdg := dec_dig n.toNat
    have hv := dec_val n.toNat
    rw [if_neg h]
    have hne := dec_ne n.toNat
    obtain ⟨b, r, e⟩ : ∃ b r, decDigits n.toNat = b :: r := by
      cases hh : decDigits n.toNat with
      | nil => exact absurd hh hne
      | cons b r => exact ⟨b, r, rfl⟩
    have hb1 := hdg b (by rw [e]; exact List.mem_cons_self ..)
    have h45 : b.toNat ≠ 45 := by unfold isDig at hb1; omega
    rw [e, trim_pos h45, ← e] at h2
    have ea : atN (decDigits n.toNat) = 0 := by rw [e]; unfold atN; rw [if_neg (by simpa using h45)]
    have hbad : ¬ badN d (decDigits n.toNat) := by
      unfold badN
      rw [ea]
      rintro (h1 | h1 | ⟨h1, h3⟩)
      · rw [e] at h1; simp at h1
      · omega
      · rw [e] at h1 h3
        by_cases h0 : 0 < n.toNat
        · obtain ⟨b', r', e', hb'⟩ := dec_head h0
          rw [e] at e'
          injection e' with e1 e2
          subst e1
          exact hb' (by simpa using h1)
        · have : n.toNat = 0 := by omega
          rw [this] at e
          have : decDigits 0 = [48] := by rw [decDigits]; rfl
          rw [this] at e
          injection e with e1 e2
          rw [← e2] at h3
          simp at h3
    unfold numN
    rw [if_neg hbad, ea]
    simp only [Nat.zero_ne_one, List.drop_zero, if_false]
    rw [if_pos hdg, hv]
    congr 1; omega
theorem numN_none {d : Nat} {s : Bytes} (h : numN d s = none) {v : Int} : ¬ (itoa v = s ∧ (trimPrefix s [45]).length ≤ d) := by
  rintro ⟨h1, h2⟩
  subst h1
  rw [numN_back h2] at h
  cases h
end Go.Plain

/- Plain facts: a window's string. -/
namespace Go.Plain
open Go.Lib
theorem nDigits_le : ∀ (k u : Nat), u < 10 ^ (k + 1) → nDigits u ≤ k + 1
  | 0, u, h => by rw [nDigits_small (by omega)]; omega
  | k + 1, u, h => by
    by_cases h9 : u < 10
    · rw [nDigits_small h9]; omega
    · rw [nDigits_big h9]
      have := nDigits_le k (u / 10) (by rw [Nat.pow_succ] at h; omega)
      omega
theorem itoa_len {n : Int} (h : -9223372036854775808 ≤ n ∧ n ≤ 9223372036854775807) : (itoa n).length ≤ 20 := by
  unfold itoa
  split
  · rw [List.length_cons, decDigits_length]
    have := nDigits_le 18 n.natAbs (by have : (10 : Nat) ^ (18 + 1) = 10000000000000000000 := by decide
                                       omega)
    omega
  · rw [decDigits_length]
    have := nDigits_le 18 n.toNat (by have : (10 : Nat) ^ (18 + 1) = 10000000000000000000 := by decide
                                      omega)
    omega
/-- The words of a window. -/
def wordsW (a b : List Int) : List Bytes := a.map itoa ++ [59] :: b.map itoa
def fmtW (a b : List Int) : Bytes := join (wordsW a b) [32]
def catA (a : List Int) : Bytes := (a.map fun n => itoa n ++ [32]).flatten
def catB (b : List Int) : Bytes := (b.map fun n => 32 :: itoa n).flatten
theorem fmtW_eq (a b : List Int) : fmtW a b = catA a ++ [59] ++ catB b := by
  unfold fmtW wordsW
  induction a with
  | nil =>
    show join ([59] :: b.map itoa) [32] = _
    rw [join_cons]
    have : joinTail [32] (b.map itoa) = catB b := by
      unfold joinTail catB
      rw [List.map_map]; rfl
    rw [this]; rfl
  | cons n a ih =>
    have hne : a.map itoa ++ [59] :: b.map itoa ≠ [] := by simp
    obtain ⟨y, r, e⟩ : ∃ y r, a.map itoa ++ [59] :: b.map itoa = y :: r := by
      cases h : a.map itoa ++ [59] :: b.map itoa with
      | nil => exact absurd h hne
      | cons y r => exact ⟨y, r, rfl⟩
    have e1 : (n :: a).map itoa ++ [59] :: b.map itoa = itoa n :: (y :: r) := by rw [List.map_cons, List.cons_append, e]
    rw [e1, join_cons]
    rw [e, join_cons] at ih
    have e2 : joinTail [32] (y :: r) = [32] ++ (y ++ joinTail [32] r) := by
      unfold joinTail
      rw [List.map_cons, List.flatten_cons]
      simp
    rw [e2, ih]
    show itoa n ++ ([32] ++ (catA a ++ [59] ++ catB b)) = ((itoa n ++ [32]) ++ catA a) ++ [59] ++ catB b
    simp
def inJ (n : Int) : Prop := -9223372036854775808 ≤ n ∧ n ≤ 9223372036854775807
theorem catA_len : ∀ {a : List Int}, (∀ n ∈ a, inJ n) → (catA a).length ≤ 21 * a.length
  | [], _ => by simp [catA]
  | n :: a, h => by
    have h1 := itoa_len (h n (List.mem_cons_self ..))
    have h2 := catA_len (a := a) fun x hx => h x (List.mem_cons_of_mem _ hx)
    have : catA (n :: a) = itoa n ++ [32] ++ catA a := rfl
    rw [this]; simp only [List.length_append, List.length_cons, List.length_nil]; omega
theorem catB_len : ∀ {a : List Int}, (∀ n ∈ a, inJ n) → (catB a).length ≤ 21 * a.length
  | [], _ => by simp [catB]
  | n :: a, h => by
    have h1 := itoa_len (h n (List.mem_cons_self ..))
    have h2 := catB_len (a := a) fun x hx => h x (List.mem_cons_of_mem _ hx)
    have : catB (n :: a) = (32 :: itoa n) ++ catB a := rfl
    rw [this]; simp only [List.length_append, List.length_cons]; omega
theorem takeD_snoc {α : Type} {l : List α} {i : Nat} (h : i < l.length) (d : α) : l.take (i + 1) = l.take i ++ [l.getD i d] := by
  rw [List.take_add_one, List.getElem?_eq_getElem h]
  simp [List.getD_eq_getElem?_getD, h]
theorem catA_snoc {l : List Int} {i : Nat} (h : i < l.length) : catA (l.take (i + 1)) = catA (l.take i) ++ itoa (l.getD i 0) ++ [32] := by
  rw [takeD_snoc h 0]; unfold catA; simp
theorem catB_snoc {l : List Int} {i : Nat} (h : i < l.length) : catB (l.take (i + 1)) = catB (l.take i) ++ [32] ++ itoa (l.getD i 0) := by
  rw [takeD_snoc h 0]; unfold catB; simp
theorem words_snoc {l : List Int} {i : Nat} (h : i < l.length) : (l.take (i + 1)).map itoa = (l.take i).map itoa ++ [itoa (l.getD i 0)] := by
  rw [takeD_snoc h 0]; simp
theorem getD_in {l : List Int} {P : Int → Prop} (hl : ∀ n ∈ l, P n) {i : Nat} (h : i < l.length) : P (l.getD i 0) := by
  rw [show l.getD i 0 = l[i] by simp [List.getD_eq_getElem?_getD, h]]
  exact hl _ (List.getElem_mem h)
theorem take_in {l : List Int} {P : Int → Prop} (hl : ∀ n ∈ l, P n) {i : Nat} : ∀ n ∈ l.take i, P n := fun n hn => hl n (List.mem_of_mem_take hn)
end Go.Plain

/- Plain facts: a string cut at a byte: three ways that agree. -/
namespace Go.Plain
open Go.Lib
def spl (c : Nat) : Bytes → List Bytes
  | [] => [[]]
  | b :: r => if b.toNat = c then [] :: spl c r else match spl c r with
    | w :: ws => (b :: w) :: ws
    | [] => [[b]]
theorem spl_ne (c : Nat) : ∀ s, spl c s ≠ []
  | [] => by simp [spl]
  | b :: r => by
    unfold spl
    split
    · simp
    · split <;> simp
theorem spl_index (c : UInt8) : ∀ s : Bytes, (indexByte s c = -1 ∧ spl c.toNat s = [s]) ∨ ∃ i : Nat, i < s.length ∧ indexByte s c = i ∧ spl c.toNat s = s.take i :: spl c.toNat (s.drop (i + 1))
  | [] => .inl ⟨rfl, rfl⟩
  | b :: r => by
    by_cases hb : b = c
    · subst hb
      refine .inr ⟨0, by simp, ?_, ?_⟩
      · unfold indexByte; rw [if_pos (by simp)]; rfl
      · show (if b.toNat = b.toNat then _ else _) = _
        rw [if_pos rfl]; rfl
    · have hb' : ¬ b.toNat = c.toNat := fun e => hb (UInt8.toNat_inj.1 e)
      rcases spl_index c r with ⟨h1, h2⟩ | ⟨i, h1, h2, h3⟩
      · refine .inl ⟨?_, ?_⟩
        · unfold indexByte; rw [if_neg (by simpa using hb), if_pos (by simpa using h1)]
        · unfold spl; rw [if_neg hb', h2]
      · refine .inr ⟨i + 1, by simpa using h1, ?_, ?_⟩
        · unfold indexByte; rw [if_neg (by simpa using hb), h2, if_neg (by simp <;> omega)]; first | omega | rfl
        · show (if b.toNat = c.toNat then _ else match spl c.toNat r with | w :: ws => (b :: w) :: ws | [] => [[b]]) = _
          rw [if_neg hb', h3]; rfl
theorem spl_splitK (c : UInt8) : ∀ (n : Nat) (s : Bytes), s.length ≤ n → splitK [c] 0 (count s [c]) s = spl c.toNat s ∧ (spl c.toNat s).length = count s [c] + 1
  | n, s, hn => by
    rcases spl_index c s with ⟨h1, h2⟩ | ⟨i, h1, h2, h3⟩
    · rw [← index_one] at h1
      rw [count_miss h1, h2]
      exact ⟨rfl, rfl⟩
    · rw [← index_one] at h2
      rw [count_hit (by simp) h2, h3, Nat.add_comm 1]
      have hl : (s.drop (i + 1)).length < s.length := by simp; omega
      cases n with
      | zero => omega
      | succ n =>
        have ih := spl_splitK c n (s.drop (i + 1)) (by omega)
        simp only [List.length_cons, List.length_nil, Nat.zero_add]
        refine ⟨?_, by rw [ih.2]⟩
        show (if (index s [c] == -1) = true then _ else _) = _
        rw [if_neg (by rw [h2]; simp <;> omega), h2]
        simp only [List.length_cons, List.length_nil, Nat.zero_add, Int.toNat_natCast, Nat.add_zero]
        rw [ih.1]
theorem cutS_spl (s : Bytes) (c : UInt8) : Go.Fw.cutS s c = spl c.toNat s ∧ (Go.Fw.cutS s c).length = countB (Go.Fw.B s) (Go.Fw.B [c]) + 1 := by
  have e : countB (Go.Fw.B s) (Go.Fw.B [c]) = count s [c] := by
    show count (Go.Fw.B s).data.toList (Go.Fw.B [c]).data.toList = _
    rw [Go.Fw.B_data, Go.Fw.B_data]
  have h := spl_splitK c s.length s (Nat.le_refl _)
  unfold Go.Fw.cutS
  rw [e, h.1]
  exact ⟨rfl, h.2⟩
theorem spl_snoc (c : Nat) (b : UInt8) : ∀ (t : Bytes) (ps : List Bytes) (w : Bytes), spl c t = ps ++ [w] → spl c (t ++ [b]) = if b.toNat = c then ps ++ [w] ++ [[]] else ps ++ [w ++ [b]]
  | [], ps, w, h => by
    have h' : [[]] = ps ++ [w] := h
    have : ps = [] ∧ w = [] := by
      cases ps with
      | nil => exact ⟨rfl, by simpa using h'.symm⟩
      | cons p ps => simp at h'
    obtain ⟨rfl, rfl⟩ := this
    show (if b.toNat = c then [] :: [[]] else _) = _
    split <;> rfl
  | x :: t, ps, w, h => by
    by_cases hx : x.toNat = c
    · have h1 : [] :: spl c t = ps ++ [w] := by rw [← h]; exact (if_pos hx).symm
      cases ps with
      | nil =>
        have := spl_ne c t
        simp at h1; exact absurd h1.2 this
      | cons p ps =>
        have h2 : p = [] ∧ spl c t = ps ++ [w] := by simpa [eq_comm] using h1
        have ih := spl_snoc c b t ps w h2.2
        show (if x.toNat = c then [] :: spl c (t ++ [b]) else _) = _
        rw [if_pos hx, ih, h2.1]
        split <;> rfl
    · have hne := spl_ne c t
      cases hs : spl c t with
      | nil => exact absurd hs hne
      | cons w0 ws =>
        have h1 : (x :: w0) :: ws = ps ++ [w] := by
          rw [← h]
          show _ = (if x.toNat = c then _ else match spl c t with | w :: ws => (x :: w) :: ws | [] => [[x]])
          rw [if_neg hx, hs]
        have go : ∀ u us, spl c (t ++ [b]) = u :: us → spl c (x :: t ++ [b]) = (x :: u) :: us := by
          intro u us e
          show (if x.toNat = c then _ else match spl c (t ++ [b]) with | w :: ws => (x :: w) :: ws | [] => [[x]]) = _
          rw [if_neg hx, e]
        cases ps with
        | nil =>
          have h2 : x :: w0 = w ∧ ws = [] := by simpa using h1
          obtain ⟨rfl, rfl⟩ := h2
          have ih := spl_snoc c b t [] w0 (by rw [hs]; rfl)
          split
          · rename_i hb; rw [if_pos hb] at ih; exact go _ _ ih
          · rename_i hb; rw [if_neg hb] at ih; exact go _ _ ih
        | cons p ps =>
          have h2 : x :: w0 = p ∧ ws = ps ++ [w] := by simpa using h1
          obtain ⟨rfl, rfl⟩ := h2
          have ih := spl_snoc c b t (w0 :: ps) w (by rw [hs]; rfl)
          split
          · rename_i hb; rw [if_pos hb] at ih; exact go _ _ ih
          · rename_i hb; rw [if_neg hb] at ih; exact go _ _ ih
theorem cutP_spl (s : Bytes) (c : Nat) : ∀ i, i ≤ s.length → spl c (s.take i) = (cutP s c i).1 ++ [(s.take i).drop (cutP s c i).2]
  | 0, _ => by simp [spl, cutP]
  | i + 1, h => by
    have ih := cutP_spl s c i (by omega)
    have h2 := (cutP_le s c i).1
    have e : s.take (i + 1) = s.take i ++ [s.getD i 0] := by
      have := cut_succ (s := s) (a := 0) (i := i) (Nat.zero_le _) (by omega)
      simpa using this
    have hs := spl_snoc c (s.getD i 0) (s.take i) _ _ ih
    rw [e, hs]
    show _ = (if (s.getD i 0).toNat = c then ((cutP s c i).1 ++ [(s.take i).drop (cutP s c i).2], i + 1) else cutP s c i).1 ++ [(s.take i ++ [s.getD i 0]).drop (if (s.getD i 0).toNat = c then ((cutP s c i).1 ++ [(s.take i).drop (cutP s c i).2], i + 1) else cutP s c i).2]
    by_cases hc : (s.getD i 0).toNat = c
    · simp only [if_pos hc]
      have : (s.take i ++ [s.getD i 0]).drop (i + 1) = [] := by
        rw [List.drop_eq_nil_of_le]; simp; omega
      rw [this]
    · simp only [if_neg hc]
      rw [← e, cut_succ h2 (by omega)]
theorem cutR_spl (s : Bytes) (c : Nat) : cutR s c = spl c s := by
  have := cutP_spl s c s.length (Nat.le_refl _)
  rw [List.take_length] at this
  exact this.symm
theorem spl_clean {c : Nat} : ∀ {w : Bytes}, (∀ b ∈ w, b.toNat ≠ c) → spl c w = [w] ∧ ∀ d r, d.toNat = c → spl c (w ++ d :: r) = w :: spl c r
  | [], _ => ⟨rfl, fun d r hd => by show (if d.toNat = c then _ else _) = _; rw [if_pos hd]⟩
  | b :: w, h => by
    have ih := spl_clean (c := c) (w := w) fun x hx => h x (List.mem_cons_of_mem _ hx)
    have hb := h b (List.mem_cons_self ..)
    refine ⟨?_, fun d r hd => ?_⟩
    · unfold spl; rw [if_neg hb, ih.1]
    · show (if b.toNat = c then _ else match spl c (w ++ d :: r) with | w :: ws => (b :: w) :: ws | [] => [[b]]) = _
      rw [if_neg hb, ih.2 d r hd]
theorem spl_join : ∀ (x : Bytes) (l : List Bytes), (∀ w ∈ x :: l, ∀ b ∈ w, b.toNat ≠ 32) → spl 32 (join (x :: l) [32]) = x :: l
  | x, [], h => by
    rw [join_one]
    exact (spl_clean (h x (List.mem_cons_self ..))).1
  | x, y :: l, h => by
    have ih := spl_join y l fun w hw => h w (List.mem_cons_of_mem _ hw)
    have e : join (x :: y :: l) [32] = x ++ 32 :: join (y :: l) [32] := by
      rw [join_cons, join_cons]
      unfold joinTail
      rw [List.map_cons, List.flatten_cons]
      simp
    rw [e, (spl_clean (h x (List.mem_cons_self ..))).2 32 _ rfl, ih]
theorem spl_len (c : Nat) : ∀ s : Bytes, (spl c s).length ≤ s.length + 1 ∧ ∀ w ∈ spl c s, w.length ≤ s.length
  | [] => by simp [spl]
  | b :: r => by
    have ih := spl_len c r
    unfold spl
    split
    · refine ⟨by simp; omega, fun w hw => ?_⟩
      rcases List.mem_cons.1 hw with rfl | hw
      · simp
      · have := ih.2 w hw; simp; omega
    · cases hs : spl c r with
      | nil => exact absurd hs (spl_ne c r)
      | cons w0 ws =>
        rw [hs] at ih
        refine ⟨by have := ih.1; simp at this ⊢; omega, fun w hw => ?_⟩
        rcases List.mem_cons.1 hw with rfl | hw
        · have := ih.2 w0 (List.mem_cons_self ..); simp; omega
        · have := ih.2 w (List.mem_cons_of_mem _ hw); simp; omega
end Go.Plain

/- Framework: pieces of rows of strings. -/
namespace Go.Fw
open Go.IntWalk Go.RowKit
variable {C : Ctx} {fid : Nat} {o : Oper} {E : Env} {H : Hp} {t : Trace} {k : Env → Hp → Trace → Prop} {T : TypeId} {x y : Operand}
theorem strs_uniA (l : List (List UInt8)) : (SC.view (strs l)).uni 1 := by
  intro e he
  obtain ⟨w, _, rfl⟩ := List.mem_map.1 he
  rfl
theorem rVSlH {i : TI} {e : TypeId} {ie : TI} {l : List (List UInt8)} {zz : Int} {n : Nat} {k' : IntKind} [nz : NatOf zz n] (ho : o.op = .slice T x none (some y) none) (hx : C.ev E.get x = some (.val (false, [.st (.view (strs l))]))) (hy : C.ev E.get y = some (.val (false, [.st (.lit (.int k' zz))])))
    (hi : C.ti T = some i) (hc : i.cls = .slice e) (he : C.ti e = some ie) (hs : ie.size = 1) (hb : n ≤ l.length)
    (h2 : putK o.dst (one (.st (.view (strs (l.take n))))) E fun E' => k E' H (([], []) :: t)) : RunO C fid o E H t k := by
  refine rG (r := one (.st (.view (strs (l.take n))))) (u := []) (R := []) (fun K hK => ?_) h2
  have e0 : zz.toNat = n := by rw [nz.eq]; simp
  have u := strs_uniA l
  unfold opA
  rw [ho]
  simp only [hx, Option.map]
  unfold sliceA
  simp only [hi, hc, he, stat1L, stat1, hy, SC.isView, bnd, SC.len, SC.sub, List.drop_zero]
  rw [hs]
  refine ⟨by rw [nz.eq]; omega, ⟨by omega, by rw [e0]; simpa using hb⟩, u, ?_⟩
  rw [e0, ← List.map_take]
  exact hK
theorem rVSlL {i : TI} {e : TypeId} {ie : TI} {l : List (List UInt8)} {zz : Int} {n : Nat} {k' : IntKind} [nz : NatOf zz n] (ho : o.op = .slice T x (some y) none none) (hx : C.ev E.get x = some (.val (false, [.st (.view (strs l))]))) (hy : C.ev E.get y = some (.val (false, [.st (.lit (.int k' zz))])))
    (hi : C.ti T = some i) (hc : i.cls = .slice e) (he : C.ti e = some ie) (hs : ie.size = 1) (hb : n ≤ l.length)
    (h2 : putK o.dst (one (.st (.view (strs (l.drop n))))) E fun E' => k E' H (([], []) :: t)) : RunO C fid o E H t k := by
  refine rG (r := one (.st (.view (strs (l.drop n))))) (u := []) (R := []) (fun K hK => ?_) h2
  have e0 : zz.toNat = n := by rw [nz.eq]; simp
  have u := strs_uniA l
  unfold opA
  rw [ho]
  simp only [hx, Option.map]
  unfold sliceA
  simp only [hi, hc, he, stat1L, stat1, hy, SC.isView, bnd, SC.len, SC.sub, List.take_length]
  rw [hs]
  refine ⟨by rw [nz.eq]; omega, ⟨by rw [e0]; simpa using hb, by omega⟩, u, ?_⟩
  rw [e0, ← List.map_drop]
  exact hK
theorem rVOlH {i : TI} {e : TypeId} {ie : TI} {l : List (List UInt8)} {id : Nat} {zz : Int} {n : Nat} {k' : IntKind} [nz : NatOf zz n] (ho : o.op = .slice T x none (some y) none) (hx : C.ev E.get x = some (.val (false, [.own id]))) (hy : C.ev E.get y = some (.val (false, [.st (.lit (.int k' zz))])))
    (hi : C.ti T = some i) (hc : i.cls = .slice e) (he : C.ti e = some ie) (hs : ie.size = 1) (hH : H.get id = some (.row false 1 (.view (strs l)))) (hb : n ≤ l.length)
    (h2 : putK o.dst (one (.st (.view (strs (l.take n))))) E fun E' => k E' H (([id], []) :: t)) : RunO C fid o E H t k := by
  refine rG (r := one (.st (.view (strs (l.take n))))) (u := []) (R := [id]) (fun K hK => ?_) h2
  have e0 : zz.toNat = n := by rw [nz.eq]; simp
  have u := strs_uniA l
  unfold opA
  rw [ho]
  simp only [hx, Option.map]
  unfold sliceA
  simp only [hi, hc, he, stat1L, stat1, hH, hy, SC.isView, bnd, SC.len, SC.sub, List.drop_zero, List.append_nil]
  rw [hs]
  refine ⟨by rw [nz.eq]; omega, ⟨by omega, by rw [e0]; simpa using hb⟩, u, ?_⟩
  rw [e0, ← List.map_take]
  exact hK
theorem rVOlL {i : TI} {e : TypeId} {ie : TI} {l : List (List UInt8)} {id : Nat} {zz : Int} {n : Nat} {k' : IntKind} [nz : NatOf zz n] (ho : o.op = .slice T x (some y) none none) (hx : C.ev E.get x = some (.val (false, [.own id]))) (hy : C.ev E.get y = some (.val (false, [.st (.lit (.int k' zz))])))
    (hi : C.ti T = some i) (hc : i.cls = .slice e) (he : C.ti e = some ie) (hs : ie.size = 1) (hH : H.get id = some (.row false 1 (.view (strs l)))) (hb : n ≤ l.length)
    (h2 : putK o.dst (one (.st (.view (strs (l.drop n))))) E fun E' => k E' H (([id], []) :: t)) : RunO C fid o E H t k := by
  refine rG (r := one (.st (.view (strs (l.drop n))))) (u := []) (R := [id]) (fun K hK => ?_) h2
  have e0 : zz.toNat = n := by rw [nz.eq]; simp
  have u := strs_uniA l
  unfold opA
  rw [ho]
  simp only [hx, Option.map]
  unfold sliceA
  simp only [hi, hc, he, stat1L, stat1, hH, hy, SC.isView, bnd, SC.len, SC.sub, List.take_length, List.append_nil]
  rw [hs]
  refine ⟨by rw [nz.eq]; omega, ⟨by rw [e0]; simpa using hb, by omega⟩, u, ?_⟩
  rw [e0, ← List.map_drop]
  exact hK
/-- Loading an element of a row of the frame's own. -/
theorem rLdv {i : TI} {id n : Nat} {m : Bool} {l : List (List SC)} {v : Value} (ho : o.op = .load T x) (hx : C.ev E.get x = some (.val (false, [.rptr id 1 n 0]))) (hi : C.ti T = some i) (hg : clsAg i.cls = false) (hs : i.size = 1)
    (hH : H.get id = some (.row m 1 (.view l))) (hb : l[n]? = some [.lit v])
    (h2 : putK o.dst (lit v) E fun E' => k E' H (([id], []) :: t)) : RunO C fid o E H t k := by
  refine rG (r := lit v) (u := []) (R := [id]) (fun K hK => ?_) h2
  unfold opA
  rw [ho]
  simp only [hx]
  unfold loadA
  simp only [hi, hH, hs, hg]
  refine ⟨[.lit v], ?_, hK⟩
  simp [SC.elem, hb]
/-- A nil slice in a box, as an empty row of its own. -/
theorem nilb_sub {E : Env} {Hh : Hp} {nx : Nat} (id k z : Nat) (c : SC) {T : TypeId} {cs : List DC} (hz : 0 < z) (hv : c.isView = true) (h0 : c.len = 0) (hB : Hh.get id = some (.box T cs)) (hk : cs[k]? = some .nil) :
    Sub ⟨E, Hh, nx⟩ ⟨E, (id, some (.box T (cs.set k (.own (2 * nx))))) :: ((2 * nx), some (.row true z c)) :: Hh, nx + 1⟩ := by
  rintro F nt a w ⟨N, ⟨q1, q2, q0, β, q3, q4⟩, q5⟩
  have hf : ¬ N (2 * nx) := fun h => by have := q5 _ h; rw [tag_even] at this; exact Nat.lt_irrefl _ this
  have hu : ∀ i e, c.elem i = some e → e.length = z := fun i e he => by have := SC.elem_lt he; omega
  have t2 := Tr.new q4 (Below.refl _ w) hf none (by simp) (.row true z c)
  have hN := HeapRel.new q4 (Below.refl _ w) hf none (by simp) (.row true z c) ⟨⟨hz, hv, hu⟩, .inl ⟨by simp [setB], h0⟩⟩
  rw [← Hp.get_cons] at t2 hN
  have hid : N id := (q4.rel id _ hB).1
  have hne : id ≠ (2 * nx) := fun e => hf (e ▸ hid)
  have hB1 : Hp.get (((2 * nx), some (.row true z c)) :: Hh) id = some (.box T cs) := by rw [Hp.get_cons, updH_ne _ _ _ hne]; exact hB
  generalize hH1 : Hp.get (((2 * nx), some (.row true z c)) :: Hh) = H1 at *
  have hnx : H1 (2 * nx) = some (.row true z c) := by rw [← hH1, Hp.get_cons, updH_same]
  have t3 : Tr F (setB β (2 * nx) none) (Fw.setN N (2 * nx)) H1 w (setB β (2 * nx) none) (Fw.setN N (2 * nx)) (updH H1 id (some (.box T (cs.set k (.own (2 * nx)))))) w := {
    below := Keep.refl _ _
    others := fun _ _ h => h
    mem := fun b o v _ hs e => ⟨fun id' blk e' hb => by
      by_cases h : id' = id
      · subst h
        exact (hs id' _ hB1 hb).elim
      · rw [updH_ne _ _ _ h] at e'
        exact hs id' blk e' hb, e⟩
    used := fun _ h => h
    beta := fun _ _ => rfl
    keep := fun id' blk' _ e => by
      by_cases h : id' = id
      · subst h
        rw [updH_same] at e; cases e
        exact ⟨_, hB1, trivial⟩
      · rw [updH_ne _ _ _ h] at e
        exact ⟨blk', e, blk'.like_refl⟩
    size := fun _ _ _ _ arr _ _ _ _ _ _ h => ⟨arr, h, rfl⟩ }
  have h3 : HeapRel F (setB β (2 * nx) none) (Fw.setN N (2 * nx)) (updH H1 id (some (.box T (cs.set k (.own (2 * nx)))))) w := by
    refine hN.step t3 (fun i => i = id) (fun i b0 hi e => ?_) (fun i b0 hi e => ?_) (fun i j b x y hi hj bi bj => ?_)
    · rw [updH_ne _ _ _ hi] at e
      exact ⟨e, (hN.rel i b0 e).1, fun _ _ => rfl⟩
    · subst hi
      rw [updH_same] at e; cases e
      obtain ⟨hn, b, arr, T', h1, h2, h3, h4, h5⟩ := hN.rel i _ hB1
      refine ⟨hn, b, arr, T', h1, h2, h3, by simp [h4], fun j x hx => ?_⟩
      by_cases hj : j = k
      · subst hj
        have hlt : j < cs.length := (List.getElem?_eq_some_iff.1 hk).1
        have : x = .own (2 * nx) := by simpa [hlt] using hx.symm
        subst this
        have hnil : arr.getD j undef = .slice none 0 0 := h5 j _ hk
        refine ⟨.inr rfl, by rw [hnil]; rfl, fun blk0 z' n' hb hz' => ?_⟩
        rw [updH_ne _ _ _ (Ne.symm hne), hnx] at hb
        cases hb; cases hz'
        exact .inl ⟨by simp [setB], h0, hnil⟩
      · rw [List.getElem?_set_ne (Ne.symm hj)] at hx
        exact t3.repD hN (h5 j x hx)
    · have live : ∀ {k' : Nat} {b0 : Blk}, updH H1 id (some (.box T (cs.set k (.own (2 * nx))))) k' = some b0 → ∃ b1, H1 k' = some b1 := by
        intro k' b0 h
        by_cases hk' : k' = id
        · subst hk'; exact ⟨_, hB1⟩
        · rw [updH_ne _ _ _ hk'] at h; exact ⟨b0, h⟩
      obtain ⟨b1, h1⟩ := live hi
      obtain ⟨b2, h2⟩ := live hj
      exact hN.inj i j b b1 b2 h1 h2 bi bj
  refine ⟨Fw.setN N (2 * nx), ⟨q1, q2, q0, setB β (2 * nx) none, ?_, ?_⟩, fun id' h => ?_⟩
  · rw [Hp.get_cons, hH1]
    exact t3.env hN (t2.env q4 q3)
  · rw [Hp.get_cons, hH1]
    exact h3
  · rcases h with h | h
    · exact Nat.lt_succ_of_lt (q5 _ h)
    · rw [h, tag_even]; exact Nat.lt_succ_self _
end Go.Fw

/- Framework, part sd: a string cut in two at a byte, out of the kit's contract. Program independent. -/
namespace Go.Fw
open Go.RowKit (Below)
open Go.Shelf
variable {P : Program} {gl : Glob}
theorem cut_gen {ρ : Ren} (L : Proofs.Lays.n145 P ρ) (hok : fnOk P (ρ.f 145) = true) (hg : (ρ.g 1, [SC.num .i64]) ∈ gl) (s : List UInt8) (c : UInt8) (hl : s.length ≤ 1000000) :
    Sat P gl (ρ.f 145) [SS s, SS [c]] (.tup [SS (Lib.cut s [c]).1, SS (Lib.cut s [c]).2.1, (false, [.lit (.bool (Lib.cut s [c]).2.2)])]) := by
  refine .inl ⟨hok, fun mv w vs _ hG hvs => ?_⟩
  obtain ⟨x, y, rfl, hr, hr'⟩ := repL_two hvs
  rw [rep_lit hr, rep_lit hr']
  obtain ⟨ev, h1, h2⟩ := (hG _ _ hg).1 0 _ rfl
  have hev : ∃ m, ev = .int .i64 m := by
    cases h2 with
    | num h => exact h
    | empty a cap hv => simp [SC.isView] at hv
    | view _ _ _ _ _ hv => simp [SC.isView] at hv
  obtain ⟨m, rfl⟩ := hev
  refine (Proofs.Any.strings_Cut L (B s) (B [c]) m w (by rw [B_size]; omega) h1).mono fun e w' he => ?_
  obtain ⟨rfl, n, rfl⟩ := he
  rw [B_data, B_data]
  refine ⟨_, rfl, (Below.refl w.heap.size w).trans ⟨rfl, rfl, rfl, Nat.le_refl _, fun _ _ => rfl⟩, _, rfl, rfl, fun k x hk => ?_⟩
  match k, hk with
  | 0, hk => simp at hk; subst hk; exact ⟨_, rfl, .lit rfl⟩
  | 1, hk => simp at hk; subst hk; exact ⟨_, rfl, .lit rfl⟩
  | 2, hk => simp at hk; subst hk; exact ⟨_, rfl, .lit rfl⟩
  | k + 3, hk => simp at hk
end Go.Fw

/- Framework, part se: contracts used in walks by hand: values of known shape, calls by contract. Program independent. -/
namespace Go.Fw
open Go.RowKit (Below)
variable {P : Program} {gl : Glob}

theorem arr_two {vs : Array Value} (h : vs.size = 2) : vs = #[vs.getD 0 undef, vs.getD 1 undef] := by
  apply Array.ext
  · simp [h]
  · intro i hi _
    rcases (show i = 0 ∨ i = 1 by omega) with rfl | rfl <;> simp [Array.getD_eq_getD_getElem?, h]
/-- An array is the list of its cells. -/
theorem arr_map {vs : Array Value} {n : Nat} (h : vs.size = n) : vs = ((List.range n).map fun i => vs.getD i undef).toArray := by
  apply Array.ext
  · simp [h]
  · intro i hi _
    simp [Array.getD_eq_getD_getElem?, hi]
theorem repB_one {mv mr : Mem} {v : Value} {c : SC} (h : RepB mv mr v (false, [c])) : Rep mv mr v c := by
  obtain ⟨c', e, hr⟩ := h
  simp at e
  subst e
  exact hr
theorem repB_agg {mv mr : Mem} {v : Value} {cs : List SC} (h : RepB mv mr v (true, cs)) : ∃ f : Nat → Value, v = .agg ((List.range cs.length).map f).toArray ∧ ∀ k c, cs[k]? = some c → Rep mv mr (f k) c := by
  obtain ⟨arr, rfl, h1, h2⟩ := h
  exact ⟨fun i => arr.getD i undef, by rw [← arr_map h1], h2⟩
theorem repL_list {mv mr : Mem} {vs : Array Value} {l : List SV} (h : RepL mv mr vs l) : ∃ f : Nat → Value, vs = ((List.range l.length).map f).toArray ∧ ∀ k x, l[k]? = some x → RepB mv mr (f k) x :=
  ⟨fun i => vs.getD i undef, arr_map h.1, h.2⟩
/-- What is read of static memory is read later. -/
theorem mv_below {mv : Mem} {w w' : World} {n : Nat} (hm : mv.le (rd w)) (hb : Below n w w') (hn : w.heap.size ≤ n) : mv.le (rd w') := by
  intro b o v h
  have h1 := hm b o v h
  have hlt : b < w.heap.size := World.block_lt_of_cell? _ _ h1
  show w'.cell? ⟨b, o, none⟩ = some v
  rw [hb.cell (p := ⟨b, o, none⟩) (show b < n by omega)]
  exact h1
/-- A call by contract. -/
theorem Sat.call {f : FuncId} {args : List SV} {x : SV} (h : Sat P gl f args (.one x)) {mv : Mem} {w : World} {vs : Array Value} (hm : mv.le (rd w)) (hG : GlobOK gl (rd w)) (ha : RepL mv (rd w) vs args) :
    Calls P f vs w fun e w' => ∃ v, e = .returned v ∧ Below w.heap.size w w' ∧ RepB (mvAfter mv w.heap.size w') nomem v x := by
  rcases h with h | h
  · exact h.2 mv w vs hm hG ha
  · exact h.elim
theorem Sat.callT {f : FuncId} {args : List SV} {l : List SV} (h : Sat P gl f args (.tup l)) {mv : Mem} {w : World} {vs : Array Value} (hm : mv.le (rd w)) (hG : GlobOK gl (rd w)) (ha : RepL mv (rd w) vs args) :
    Calls P f vs w fun e w' => ∃ v, e = .returned v ∧ Below w.heap.size w w' ∧ ∃ arr, v = .tuple arr ∧ RepL (mvAfter mv w.heap.size w') nomem arr l := by
  rcases h with h | h
  · exact h.2 mv w vs hm hG ha
  · exact h.elim
end Go.Fw

/- Framework, part sg: the rule for a loop over a function. Program independent. -/
namespace Go.Fw
open Go.RowKit (Below)
theorem glob_below {gl : Glob} {w W : World} (h : GlobOK gl (rd w)) (hb : Below w.heap.size w W) : GlobOK gl (rd W) := by
  intro g cs hm
  obtain ⟨h1, h2⟩ := h g cs hm
  refine ⟨fun k x hk => ?_, fun h0 => ?_⟩
  · obtain ⟨v, e, hr⟩ := h1 k x hk
    exact ⟨v, rd_grow hb e, hr⟩
  · obtain ⟨v, e, _⟩ := h1 0 cs[0] (by simp [h0])
    rw [Below.rd_lt hb (World.block_lt_of_cell? _ _ e)]; exact h2 h0
theorem rep_litv {mv mr : Mem} {v x : Value} (h : Rep mv mr v (.lit x)) : v = x := by
  cases h with
  | lit h => rfl
  | empty a cap hv => simp [SC.isView] at hv
  | view _ _ _ _ _ hv => simp [SC.isView] at hv

/-- 'for .. := range f': the rounds one by one. -/
theorem aF {C : Ctx} {g : Operand} {ps : Array Tmp} {x y : Code} {E : Env} {H : Hp} {n0 : Nat} {kn : St → Prop} {kx : Nat → St → Prop} {kr : St → Prop} {gf : FuncId} {first : List SV} {caps : List (List SC)}
    (hg : C.ev E.get g = some (.val (false, [.st (.fn gf first caps)]))) (xs : List (List SV)) (Hs : Nat → Hp) (nx : Nat) (Inv : Nat → Prop) (hit : SatIt C.P C.gl gf first caps xs) (hlen : ∀ r ∈ xs, r.length = ps.size)
    (hfl : (flatC x && (flatC y && (codeFree (keysOf E) x && (codeFree (keysOf E) y && tmpsFree (keysOf E) ps.toList)))) = true) (hm : ∀ i, noMapL (Hs i) = true) (h0 : Sub ⟨E, H, n0⟩ ⟨E, Hs 0, nx⟩) (hi : Inv 0)
    (hb : ∀ i r, xs[i]? = some r → Inv i → Awp C x ⟨params ps.toList r E, Hs i, nx⟩ (fun S1 => Awp C y S1 (fun S2 => Inv (i + 1) ∧ Sub S2 ⟨E, Hs (i + 1), nx⟩) (fun _ _ => False) (fun S2 => ∃ Hr nr, noMapL Hr = true ∧ Sub S2 ⟨E, Hr, nr⟩ ∧ kr ⟨E, Hr, nr⟩)) (fun _ _ => False) (fun _ => False))
    (hd : Inv xs.length → kn ⟨E, Hs xs.length, nx⟩) : Awp C (.rangeFunc g ps x y) ⟨E, H, n0⟩ kn kx kr := by
  refine ⟨?_⟩
  unfold awp
  simp only [hg]
  obtain ⟨f1, hfl⟩ := ble_and hfl
  obtain ⟨f2, hfl⟩ := ble_and hfl
  obtain ⟨f3, hfl⟩ := ble_and hfl
  obtain ⟨f4, f5⟩ := ble_and hfl
  exact ⟨xs, Hs, nx, Inv, hit, hlen, ⟨f1, f2, f3, f4, f5⟩, hm, h0, hi, fun i r hr hv => awp_mono (hb i r hr hv).out (fun S1 h => ⟨S1, Sub.refl _, h.out⟩) (fun _ _ h => h) fun _ h => h, hd⟩
end Go.Fw
namespace Go.Fw
/-- An element of a slice, in the model. -/
theorem slice_idx {C : Ctx} (hC : C.Ok) {T e : TypeId} {i ie : TI} {w : World} {b o n cap : Nat} {k : Int} (hi : C.ti T = some i) (hcl : i.cls = .slice e) (he : C.ti e = some ie) (h0 : 0 ≤ k) (h1 : k < (n : Int)) :
    (Instr.indexAt T (.slice (some ⟨b, o, none⟩) n cap) (.int .i64 k)).run C.P w = .ok (.pointer (some ⟨b, o + k.toNat * ie.size, none⟩)) w := by
  obtain ⟨tf, d, z, hT⟩ := hC.get hi
  obtain ⟨ef, ed, ez, hE⟩ := hC.get he
  have hd := cls_slice (hT.cls.trans hcl)
  have h2 : 0 ≤ k ∧ k < (n : Int) := ⟨h0, h1⟩
  simp [Instr.indexAt, asIntOf, hT.run_und, hd, h2, hE.run_size, addr_add]
theorem load_agg {C : Ctx} (hC : C.Ok) {T : TypeId} {i : TI} {w : World} {b o : Nat} {f : Nat → Value} (hi : C.ti T = some i) (hc : ∀ k, k < i.size → rd w b (o + k) = some (f k)) (hs : (clsAg i.cls || Nat.beq i.size 1) = true) :
    (Instr.loadAt T (.pointer (some ⟨b, o, none⟩))).run C.P w = .ok (aggOf (clsAg i.cls) i.size f) w := by
  obtain ⟨tf, d, z, hT⟩ := hC.get hi
  simp only [Instr.loadAt, Instr.sureAddr, Sem.run_bind, Sem.run_pure, Result.andThen_ok]
  exact run_loadVar hT hc hs
end Go.Fw

/- Framework, part sh: the library's functions on strings, as the evaluator computes them. Program independent. -/
namespace Go.Fw
open Go.RowKit (Below)
open Go.Shelf Go.Plain

/-- Where a byte is. -/
def idxF (c : UInt8) : List UInt8 → Option Nat
  | [] => none
  | b :: r => match Nat.beq b.toNat c.toNat with
    | true => some 0
    | false => match idxF c r with
      | some i => some (i + 1)
      | none => none
theorem idxF_eq (c : UInt8) : ∀ s : List UInt8, (idxF c s = none ∧ Lib.indexByte s c = -1) ∨ ∃ i, idxF c s = some i ∧ Lib.indexByte s c = (i : Int) ∧ i < s.length
  | [] => .inl ⟨rfl, rfl⟩
  | b :: r => by
    by_cases hb : b = c
    · subst hb
      refine .inr ⟨0, by simp [idxF], ?_, by simp⟩
      unfold Lib.indexByte; rw [if_pos (by simp)]; rfl
    · have hb' : Nat.beq b.toNat c.toNat = false := by
        cases h : Nat.beq b.toNat c.toNat
        · rfl
        · exact absurd (UInt8.toNat_inj.1 (Nat.eq_of_beq_eq_true h)) hb
      rcases idxF_eq c r with ⟨h1, h2⟩ | ⟨i, h1, h2, h3⟩
      · refine .inl ⟨by simp [idxF, hb', h1], ?_⟩
        unfold Lib.indexByte; rw [if_neg (by simpa using hb), if_pos (by simpa using h2)]
      · refine .inr ⟨i + 1, by simp [idxF, hb', h1], ?_, by simpa using h3⟩
        unfold Lib.indexByte; rw [if_neg (by simpa using hb), h2, if_neg (by simp <;> omega)]; first | omega | rfl

/-- Cut at a byte, so many times at most. -/
def splN (c : UInt8) : Nat → List UInt8 → List (List UInt8)
  | 0, s => [s]
  | k + 1, s => match idxF c s with
    | none => [s]
    | some i => s.take i :: splN c k (s.drop (i + 1))
theorem splN_eq (c : UInt8) : ∀ (k : Nat) (s : List UInt8), Lib.splitK [c] 0 k s = splN c k s
  | 0, _ => rfl
  | k + 1, s => by
    have ih := splN_eq c k
    show (if (Lib.index s [c] == -1) = true then _ else _) = _
    rw [Lib.index_one]
    rcases idxF_eq c s with ⟨h1, h2⟩ | ⟨i, h1, h2, h3⟩
    · rw [if_pos (by rw [h2]; rfl)]
      simp [splN, h1]
    · rw [if_neg (by rw [h2]; simp <;> omega), h2]
      simp only [splN, h1, List.length_cons, List.length_nil, Nat.zero_add, Int.toNat_natCast, Nat.add_zero]
      rw [ih]

def cutF (c : UInt8) (s : List UInt8) : List UInt8 × List UInt8 × Bool := match idxF c s with
  | none => (s, [], false)
  | some i => (s.take i, s.drop (i + 1), true)
theorem cutF_eq (c : UInt8) (s : List UInt8) : Lib.cut s [c] = cutF c s := by
  unfold Lib.cut cutF
  rw [Lib.index_one]
  rcases idxF_eq c s with ⟨h1, h2⟩ | ⟨i, h1, h2, h3⟩
  · rw [h1, h2]; simp
  · rw [h1, h2]; simp <;> omega

def decF : Nat → Nat → List UInt8
  | 0, _ => []
  | k + 1, u => match Nat.blt u 10 with
    | true => [UInt8.ofNat (48 + u)]
    | false => decF k (u / 10) ++ [UInt8.ofNat (48 + u % 10)]
theorem decF_eq : ∀ (k u : Nat), 0 < k → u < 10 ^ k → decF k u = Lib.decDigits u
  | 0, u, h, _ => absurd h (by omega)
  | k + 1, u, _, h => by
    rw [Lib.decDigits]
    unfold decF
    by_cases hu : u < 10
    · have : Nat.blt u 10 = true := by simpa [Nat.blt_eq] using hu
      rw [this, dif_pos hu]
    · have : Nat.blt u 10 = false := by
        cases h' : Nat.blt u 10
        · rfl
        · exact absurd (by simpa [Nat.blt_eq] using h') hu
      rw [this, dif_neg hu]
      have hk : 0 < k := by
        rcases Nat.eq_zero_or_pos k with rfl | hk
        · simp at h; omega
        · exact hk
      have : u / 10 < 10 ^ k := by
        rw [Nat.div_lt_iff_lt_mul (by omega)]
        rw [Nat.pow_succ] at h; exact h
      simp only
      rw [decF_eq k (u / 10) hk this]

/-- The numbers of the library's functions in a program. -/
structure LibNos where
  split : Nat
  splitN : Nat
  cut : Nat
  atoi : Nat
  itoa : Nat
  trim : Nat

def strL (l : List (List UInt8)) : Res := .own 1 (.view (strs l))

def libF (q : LibNos) : CL := fun f args => match args with
  | [(false, [.lit (.string s)]), (false, [.lit (.string t)])] => match Nat.ble s.size 1000000 with
    | true => match t.data.toList with
      | [c] => match Nat.beq f q.split with
        | true => .inr (strL (spl c.toNat s.data.toList))
        | false => match Nat.beq f q.cut with
          | true => .inr (.tup [SS (cutF c s.data.toList).1, SS (cutF c s.data.toList).2.1, (false, [.lit (.bool (cutF c s.data.toList).2.2)])])
          | false => match Nat.beq f q.trim with
            | true => .inr (.one (SS (Lib.trimPrefix s.data.toList t.data.toList)))
            | false => .inl [f]
      | _ => .inl [f]
    | false => .inl [f]
  | [(false, [.lit (.string s)]), (false, [.lit (.string t)]), (false, [.lit (.int .i64 n)])] => match Nat.beq f q.splitN && Nat.ble s.size 1000000 && Nat.ble 1 n.toNat && Nat.ble n.toNat 1000 with
    | true => match t.data.toList with
      | [c] => .inr (strL (splN c (min n.toNat (s.data.toList.length + 1) - 1) s.data.toList))
      | _ => .inl [f]
    | false => .inl [f]
  | [(false, [.lit (.string s)])] => match Nat.beq f q.atoi && Nat.ble s.size 1000000 with
    | true => match Lib.atoiAll s.data.toList with
      | .ok v => .inr (.tup [(false, [.lit (.int .i64 v)]), (false, [.lit .nilIface])])
      | _ => .inl [f]
    | false => .inl [f]
  | [(false, [.lit (.int .i64 n)])] => match Nat.beq f q.itoa with
    | true => match n with
      | .ofNat u => match Nat.ble u 9223372036854775807 with
        | true => .inr (.one (SS (decF 20 u)))
        | false => .inl [f]
      | .negSucc u => match Nat.ble u 9223372036854775807 with
        | true => .inr (.one (SS (45 :: decF 20 (u + 1))))
        | false => .inl [f]
    | false => .inl [f]
  | _ => .inl [f]

theorem libF_ok {P : Program} {gl : Glob} (q : LibNos)
    (h1 : ∀ (s : List UInt8) (c : UInt8), s.length ≤ 1000000 → Sat P gl q.split [SS s, SS [c]] (strL (spl c.toNat s)))
    (h2 : ∀ (s : List UInt8) (c : UInt8) (n : Nat), s.length ≤ 1000000 → 1 ≤ n → n ≤ 1000 → Sat P gl q.splitN [SS s, SS [c], (false, [.lit (.int .i64 n)])] (strL (splN c (min n (s.length + 1) - 1) s)))
    (h3 : ∀ (s : List UInt8) (c : UInt8), s.length ≤ 1000000 → Sat P gl q.cut [SS s, SS [c]] (.tup [SS (cutF c s).1, SS (cutF c s).2.1, (false, [.lit (.bool (cutF c s).2.2)])]))
    (h4 : ∀ (s : List UInt8) (v : Int), s.length ≤ 1000000 → Lib.atoiAll s = .ok v → Sat P gl q.atoi [SS s] (.tup [(false, [.lit (.int .i64 v)]), (false, [.lit .nilIface])]))
    (h5 : ∀ (n : Int), -9223372036854775808 ≤ n ∧ n ≤ 9223372036854775807 → Sat P gl q.itoa [(false, [.lit (.int .i64 n)])] (.one (SS (Lib.itoa n))))
    (h6 : ∀ (s p : List UInt8), Sat P gl q.trim [SS s, SS p] (.one (SS (Lib.trimPrefix s p)))) :
    ∀ f a r, libF q f a = .inr r → Sat P gl f a r := by
  have hB : ∀ s : ByteArray, SS s.data.toList = (false, [.lit (.string s)]) := fun s => by unfold SS; rw [B_of]
  have hS : ∀ s : ByteArray, s.size = s.data.toList.length := fun s => Lib.size_eq s
  intro f a r h
  unfold libF at h
  split at h
  · rename_i s t
    split at h
    · rename_i hs
      have hs := Nat.le_of_ble_eq_true hs
      rw [hS] at hs
      split at h
      · rename_i c hc
        have ht : SS [c] = (false, [SC.lit (.string t)]) := by rw [← hc]; exact hB t
        rw [← hB s, ← ht]
        split at h
        · rename_i hf
          cases h; rw [Nat.eq_of_beq_eq_true hf]; exact h1 _ _ hs
        · split at h
          · rename_i hf
            cases h; rw [Nat.eq_of_beq_eq_true hf]; exact h3 _ _ hs
          · split at h
            · rename_i hf
              cases h; rw [Nat.eq_of_beq_eq_true hf, hc]; exact h6 _ _
            · cases h
      · cases h
    · cases h
  · rename_i s t n
    split at h
    · rename_i hb
      obtain ⟨hb, b4⟩ := ble_and hb
      obtain ⟨hb, b3⟩ := ble_and hb
      obtain ⟨b1, b2⟩ := ble_and hb
      have b2 := Nat.le_of_ble_eq_true b2
      have b3 := Nat.le_of_ble_eq_true b3
      have b4 := Nat.le_of_ble_eq_true b4
      rw [hS] at b2
      split at h
      · rename_i c hc
        have ht : SS [c] = (false, [SC.lit (.string t)]) := by rw [← hc]; exact hB t
        cases h
        have hn : n = (n.toNat : Int) := by omega
        rw [← hB s, ← ht, Nat.eq_of_beq_eq_true b1, hn]
        simp only [Int.toNat_natCast]
        exact h2 _ _ _ b2 b3 b4
      · cases h
    · cases h
  · rename_i s
    split at h
    · rename_i hb
      obtain ⟨b1, b2⟩ := ble_and hb
      have b2 := Nat.le_of_ble_eq_true b2
      rw [hS] at b2
      split at h
      · rename_i v hv
        cases h
        rw [← hB s, Nat.eq_of_beq_eq_true b1]
        exact h4 _ _ b2 hv
      · cases h
    · cases h
  · rename_i n
    split at h
    · rename_i hf
      rw [Nat.eq_of_beq_eq_true hf]
      split at h
      · rename_i u
        split at h
        · rename_i hu
          have hu := Nat.le_of_ble_eq_true hu
          cases h
          have := h5 (Int.ofNat u) (by constructor <;> simp <;> omega)
          unfold Lib.itoa at this
          rw [if_neg (by simp <;> omega)] at this
          rw [decF_eq 20 u (by omega) (by have : (10:Nat) ^ 20 = 100000000000000000000 := by decide
                                          omega)]
          exact this
        · cases h
      · rename_i u
        split at h
        · rename_i hu
          have hu := Nat.le_of_ble_eq_true hu
          cases h
          have := h5 (Int.negSucc u) (by constructor <;> omega)
          unfold Lib.itoa at this
          rw [if_pos (by omega)] at this
          rw [decF_eq 20 (u + 1) (by omega) (by have : (10:Nat) ^ 20 = 100000000000000000000 := by decide
                                                omega)]
          exact this
        · cases h
    · cases h
  · cases h

theorem splN_length (c : UInt8) : ∀ (k : Nat) (s : List UInt8), (splN c k s).length ≤ k + 1
  | 0, _ => by simp [splN]
  | k + 1, s => by
    unfold splN
    split
    · simp
    · rename_i i _
      have := splN_length c k (s.drop (i + 1)); simpa using this

theorem repL_three {mv mr : Mem} {vs : Array Value} {c d e : SC} (h : RepL mv mr vs [(false, [c]), (false, [d]), (false, [e])]) : ∃ v u x, vs = #[v, u, x] ∧ Rep mv mr v c ∧ Rep mv mr u d ∧ Rep mv mr x e := by
  obtain ⟨hs, hh⟩ := h
  obtain ⟨v, u, x, rfl⟩ : ∃ v u x, vs = #[v, u, x] := by
    rcases vs with ⟨l⟩
    match l, hs with
    | [v, u, x], _ => exact ⟨v, u, x, rfl⟩
  obtain ⟨y, e1, r1⟩ := hh 0 _ rfl
  obtain ⟨y2, e2, r2⟩ := hh 1 _ rfl
  obtain ⟨y3, e3, r3⟩ := hh 2 _ rfl
  cases e1; cases e2; cases e3
  exact ⟨v, u, x, rfl, r1, r2, r3⟩

theorem splitN_gen {P : Program} {gl : Glob} {ρ : Ren} (L : Proofs.Lays.n147 P ρ) (hok : fnOk P (ρ.f 147) = true) (hi9 : (P.info? (ρ.t 9)).map (fun i => (i.zero, i.size, i.bytes)) = some (some (.string ByteArray.empty), 1, 16))
    (hg : (ρ.g 1, [SC.num .i64]) ∈ gl) (s : List UInt8) (c : UInt8) (n : Nat) (hl : s.length ≤ 1000000) (hn : 1 ≤ n) (hn2 : n ≤ 1000) : Sat P gl (ρ.f 147) [SS s, SS [c], (false, [.lit (.int .i64 n)])] (strL (splN c (min n (s.length + 1) - 1) s)) := by
  refine .inl ⟨hok, fun mv w vs _ hG hvs => ?_⟩
  obtain ⟨x, y, y3, rfl, hr, hr', hr3⟩ := repL_three hvs
  rw [rep_lit hr, rep_lit hr', rep_lit hr3]
  obtain ⟨ev, h1, h2⟩ := (hG _ _ hg).1 0 _ rfl
  have hev : ∃ m, ev = .int .i64 m := by
    cases h2 with
    | num h => exact h
    | empty a cap hv => simp [SC.isView] at hv
    | view _ _ _ _ _ hv => simp [SC.isView] at hv
  obtain ⟨m, rfl⟩ := hev
  refine (Proofs.Any.strings_SplitN L hi9 (B s) (B [c]) n m w (by rw [B_size]; omega) h1 (by rw [B_size]; exact Nat.le_refl 1) hn (by omega)).mono fun e w' he => ?_
  obtain ⟨rfl, rfl⟩ := he
  have hle := splN_length c (min n (s.length + 1) - 1) s
  have hsp : (Lib.splitB (B [c]) 0 (min n ((B s).size + 1) - 1) (B s)) = (splN c (min n (s.length + 1) - 1) s).map B := by
    have h := Lib.splitB_data (B [c]) 0 (min n ((B s).size + 1) - 1) (B s)
    rw [B_data, B_data, splN_eq] at h
    have : (splN c (min n (s.length + 1) - 1) s).map B = ((Lib.splitB (B [c]) 0 (min n ((B s).size + 1) - 1) (B s)).map (·.data.toList)).map B := by rw [h, B_size]
    rw [this, List.map_map]
    have e : (B ∘ fun x : ByteArray => x.data.toList) = id := by funext x; exact B_of x
    rw [e, List.map_id]
  rw [hsp, B_size]
  generalize hL : splN c (min n (s.length + 1) - 1) s = l at hle ⊢
  have hle' : l.length ≤ min n (s.length + 1) := by omega
  refine ⟨_, rfl, Below.alloc1 _ _, .inr ⟨w.heap.size, min n (s.length + 1), by simp [SC.len], Nat.le_refl _, _, _, alloc_at w _, by rw [Lib.cellsOf_size (by simpa using hle')]; simp, by decide, rfl, by simpa [SC.len] using hle', fun i e he => ?_, fun i e j x he hx => ?_⟩⟩
  · obtain ⟨u, _, rfl⟩ := strs_elem he; rfl
  · obtain ⟨u, hu, rfl⟩ := strs_elem he
    cases j with
    | zero =>
      simp at hx; subst hx
      rw [show i * 1 + 0 = i by omega, Array.getD_eq_getD_getElem?]
      have hi : i < l.length := (List.getElem?_eq_some_iff.1 hu).1
      have : (Lib.cellsOf (l.map B) (min n (s.length + 1)))[i]? = some (.string (B u)) := by
        unfold Lib.cellsOf
        rw [List.getElem?_toArray, List.getElem?_append_left (by simpa using hi)]
        simp [hu]
      rw [this]
      exact .lit rfl
    | succ j => simp at hx
end Go.Fw

/- Framework, part si: slices.Delete of strings, in place. Program independent. -/

namespace Go.Fw
open Go.RowKit (Below)
open Classical
section
variable {C : Ctx} {F : Fix} {β : Nat → Option Nat} {N : Nat → Prop} {H : HF} {fid : Nat} {w : World}

/-- A row of the frame is written anew, and gets a new name. -/
theorem row_edit (hR : HeapRel F β N H w) (hf : ¬ N fid) {z id b cap : Nat} {c c' : SC} {arr arr' : Array Value} {T : TypeId} (hb : H id = some (.row true z c)) (hβ : β id = some b) (harr : w.heap[b]? = some (.cells arr T)) (hsz : arr.size = cap * z) (hss : arr'.size = arr.size)
    (hv : c'.isView = true) (hle : c'.len ≤ cap) (hel : ∀ i e, c'.elem i = some e → e.length = z) (hc : ∀ i e j x, c'.elem i = some e → e[j]? = some x → Rep nomem nomem (arr'.getD (i * z + j) undef) x) :
    ∃ β', Tr F β N H w β' (setN N fid) (Hp.on [(fid, some (.row true z c')), (id, none)] H) (w.setRow b arr') ∧ HeapRel F β' (setN N fid) (Hp.on [(fid, some (.row true z c')), (id, none)] H) (w.setRow b arr') ∧
      RepDV F β' (setN N fid) (Hp.on [(fid, some (.row true z c')), (id, none)] H) (w.setRow b arr') (.slice (some ⟨b, 0, none⟩) c'.len cap) (one (.own fid)) := by
  obtain ⟨hn, ⟨hz, hvw, hl0⟩, hrow⟩ := hR.rel id _ hb
  rcases hrow with ⟨q, _⟩ | ⟨b', cap', q1, q2, arr0, T0, q3, q4, q5⟩
  · rw [hβ] at q; cases q
  rw [hβ] at q1; cases q1
  rw [harr] at q3; cases q3
  have hidf : id ≠ fid := fun e => hf (e ▸ hn)
  have hat : (w.setRow b arr').heap[b]? = some (.cells arr' T) := setRow_heap w b arr _ T (0, 0) harr
  show ∃ β', Tr F β N H w β' (setN N fid) (updH (updH H id none) fid (some (.row true z c'))) (w.setRow b arr') ∧ HeapRel F β' (setN N fid) (updH (updH H id none) fid (some (.row true z c'))) (w.setRow b arr') ∧
      RepDV F β' (setN N fid) (updH (updH H id none) fid (some (.row true z c'))) (w.setRow b arr') (.slice (some ⟨b, 0, none⟩) c'.len cap) (one (.own fid))
  have live : ∀ {k : Nat} {b0 : Blk}, k ≠ fid → updH (updH H id none) fid (some (.row true z c')) k = some b0 → k ≠ id ∧ H k = some b0 := by
    intro k b0 hk h
    rw [updH_ne _ _ _ hk] at h
    by_cases hki : k = id
    · subst hki; rw [updH_same] at h; cases h
    · rw [updH_ne _ _ _ hki] at h; exact ⟨hki, h⟩
  have hT : Tr F β N H w (setB β fid (some b)) (Fw.setN N fid) (updH (updH H id none) fid (some (.row true z c'))) (w.setRow b arr') := by
    refine ⟨Keep.setRow (hR.live_lt hb hβ).2 _, fun b' o v _ hs e => ⟨fun id' blk e' hb' => ?_, ?_⟩, fun _ h => .inl h, fun id' hn' => setB_ne _ _ _ fun e => hf (e ▸ hn'), fun id' blk' hn' e => ?_, fun _ _ _ b' arr0 T0 _ _ _ _ _ e => ?_, setRow_others ⟨_, _, harr⟩ _⟩
    · by_cases hk : id' = fid
      · subst hk
        rw [setB_same] at hb'; cases hb'
        have := hs id _ hb hβ
        simp [Blk.stab] at this
      · rw [setB_ne _ _ _ hk] at hb'
        exact hs id' blk (live hk e').2 hb'
    · by_cases hk : b' = b
      · subst hk
        have := hs id _ hb hβ
        simp [Blk.stab] at this
      · unfold rd at e ⊢
        rw [cell_setRow_other w b _ _ hk]; exact e
    · have hk : id' ≠ fid := fun e => hf (e ▸ hn')
      exact ⟨blk', (live hk e).2, blk'.like_refl⟩
    · by_cases hk : b' = b
      · subst hk
        rw [harr] at e; cases e
        exact ⟨_, hat, hss⟩
      · exact ⟨arr0, by rw [setRow_other w b b' _ hk]; exact e, rfl⟩
  have hH : HeapRel F (setB β fid (some b)) (Fw.setN N fid) (updH (updH H id none) fid (some (.row true z c'))) (w.setRow b arr') := by
    refine hR.step hT (fun i => i = fid) (fun i blk hi e => ?_) (fun i blk hi e => ?_) (fun i j x y y' hi hj bi bj => ?_)
    · obtain ⟨h1, h2⟩ := live hi e
      refine ⟨h2, (hR.rel i blk h2).1, fun b1 hb1 => setRow_other w b b1 _ fun hbb => h1 ?_⟩
      subst hbb
      exact hR.inj i id b1 blk _ h2 hb hb1 hβ
    · subst hi
      rw [updH_same] at e; cases e
      exact ⟨.inr rfl, ⟨hz, hv, hel⟩, .inr ⟨b, cap, by simp [setB], q2, arr', T, hat, by rw [hss, hsz], hz, hv, hle, hel, fun i e' j x he hx => (hc i e' j x he hx).mono (nomem_le _) (Mem.le_refl _)⟩⟩
    · by_cases h1 : i = fid
      · by_cases h2 : j = fid
        · rw [h1, h2]
        · exfalso
          subst h1
          rw [setB_same] at bi; cases bi
          rw [setB_ne _ _ _ h2] at bj
          obtain ⟨h3, h4⟩ := live h2 hj
          exact h3 (hR.inj j id b _ _ h4 hb bj hβ)
      · by_cases h2 : j = fid
        · exfalso
          subst h2
          rw [setB_same] at bj; cases bj
          rw [setB_ne _ _ _ h1] at bi
          obtain ⟨h3, h4⟩ := live h1 hi
          exact h3 (hR.inj i id b _ _ h4 hb bi hβ)
        · rw [setB_ne _ _ _ h1] at bi
          rw [setB_ne _ _ _ h2] at bj
          exact hR.inj i j x _ _ (live h1 hi).2 (live h2 hj).2 bi bj
  refine ⟨_, hT, hH, repOne ⟨.inr rfl, rfl, fun blk0 z' n' hb' hz' => ?_⟩⟩
  have : updH (updH H id none) fid (some (.row true z c')) fid = some blk0 := hb'
  rw [updH_same] at this; cases this; cases hz'
  exact .inr ⟨b, cap, _, T, by simp [setB], rfl, hat, by rw [hss, hsz]⟩

/-- slices.Delete in place, from its run. -/
theorem delete_call {f : FuncId} (hok : fnOk C.P f = true) (zs : List (List UInt8)) (i j : Nat) (hij : i < j) (hj : j ≤ zs.length)
    (hrun : ∀ (b cap : Nat) (arr : Array Value) (T : TypeId) (w : World), w.heap[b]? = some (.cells arr T) → arr.size = cap → zs.length ≤ cap → (∀ k, k < zs.length → arr[k]? = some (.string (B (zs.getD k [])))) →
      Calls C.P f #[.slice (some ⟨b, 0, none⟩) zs.length cap, .int .i64 i, .int .i64 j] w fun e w' => e = .returned (.slice (some ⟨b, 0, none⟩) (i + (zs.length - j)) cap) ∧
        ∃ arr', w' = w.drew.setRow b arr' ∧ arr'.size = arr.size ∧ ∀ k, k < i + (zs.length - j) → arr'[k]? = some (.string (B ((zs.take i ++ zs.drop j).getD k []))))
    {id : Nat} (hb : H id = some (.row true 1 (.view (strs zs)))) :
    HCall C fid f [(false, [.own id]), (false, [.st (.lit (.int .i64 i))]), (false, [.st (.lit (.int .i64 j))])] H (one (.own fid)) [(fid, some (.row true 1 (.view (strs (zs.take i ++ zs.drop j))))), (id, none)] [id] := by
  refine ⟨hok, fun F β N H' w vs hH hG hR hf hsz hv => ?_⟩
  have hb' : H' id = some (.row true 1 (.view (strs zs))) := by rw [hH id (by simp), hb]
  obtain ⟨hn, h1, h2⟩ : RepD F β N H' w (vs.getD 0 undef) (.own id) := (hv 0 _ rfl).one_inv
  have e1 : vs.getD 1 undef = .int .i64 i := (RepD.lit_inv ((hv 1 _ rfl).one_inv)).1
  have e2 : vs.getD 2 undef = .int .i64 j := (RepD.lit_inv ((hv 2 _ rfl).one_inv)).1
  have hlen : (SC.view (strs zs)).len = zs.length := by simp [SC.len]
  rcases h2 _ _ _ hb' rfl with ⟨_, h0, _⟩ | ⟨b, cap, arr, T, a1, a2, a3, a4⟩
  · rw [hlen] at h0; omega
  rw [hlen] at a2
  have hvs : vs = #[.slice (some ⟨b, 0, none⟩) zs.length cap, .int .i64 i, .int .i64 j] := by
    have h3 : vs.size = 3 := hsz
    apply Array.ext
    · simp [h3]
    · intro k hk _
      rw [h3] at hk
      have hg : ∀ k (hk : k < vs.size), vs[k] = vs.getD k undef := fun k hk => by simp [Array.getD, hk]
      rw [hg]
      match k, hk with
      | 0, _ => exact a2
      | 1, _ => exact e1
      | 2, _ => exact e2
  obtain ⟨_, ⟨hz, hvw, hel⟩, hrow⟩ := hR.rel id _ hb'
  rcases hrow with ⟨q, _⟩ | ⟨b', cap', q1, q2, arr', T', p1, p2, p3, p4, p5, p6, p7⟩
  · rw [q] at a1; cases a1
  rw [a1] at q1; cases q1
  rw [a3] at p1; cases p1
  have hcc : cap = cap' := by omega
  subst hcc
  rw [hlen] at p5
  have hget : ∀ k, k < zs.length → arr[k]? = some (.string (B (zs.getD k []))) := fun k hk => by
    have := p7 k [.lit (.string (B (zs.getD k [])))] 0 (.lit (.string (B (zs.getD k [])))) (by simp [SC.elem, strs, List.getD_eq_getElem?_getD, hk]) rfl
    simp only [Nat.mul_one, Nat.add_zero] at this
    have hlt : k < arr.size := by omega
    have e := (RepD.lit_inv (F := F) (β := β) (N := N) (H := H') (w := w) (Rep.mono (Mem.le_refl _) (nomem_le _) this)).1
    rw [← e]; simp [Array.getD_eq_getD_getElem?, hlt]
  rw [hvs]
  refine (hrun b cap arr T w a3 (by omega) p5 hget).mono fun e w1 he => ?_
  obtain ⟨rfl, arr2, rfl, s1, s2⟩ := he
  have hB : Below w.heap.size w w.drew := (Below.refl _ _).drew
  have hR1 := hR.grow hB
  have t1 := Tr.grow hR hB
  have hl2 : (SC.view (strs (zs.take i ++ zs.drop j))).len = i + (zs.length - j) := by simp [SC.len]; omega
  obtain ⟨β', g1, g2, g3⟩ := row_edit (c' := .view (strs (zs.take i ++ zs.drop j))) hR1 (fun h => hf _ h rfl) hb' a1 (show w.drew.heap[b]? = some (.cells arr T) from a3) a4 s1 rfl (by rw [hl2]; omega) (fun k e he => by obtain ⟨w, _, rfl⟩ := strs_elem he; rfl) fun k e m x he hx => by
    obtain ⟨s, hs, rfl⟩ := strs_elem he
    have hk : k < i + (zs.length - j) := by have := SC.elem_lt he; rwa [hl2] at this
    cases m with
    | succ m => simp at hx
    | zero =>
      simp at hx; subst hx
      have := s2 k hk
      rw [List.getD_eq_getElem?_getD, hs, Option.getD_some] at this
      rw [Nat.mul_one, Nat.add_zero, Array.getD_eq_getD_getElem?, this]
      exact .lit rfl
  rw [hl2] at g3
  exact ⟨_, β', rfl, t1.trans g1, g2, g3⟩
end
end Go.Fw

/- Framework, part sj: calls by data that are known already, looked up by their arguments. Program independent. -/
namespace Go.Fw

def beqV : Value → Value → Bool
  | .int k a, .int k' b => decide (k = k') && decide (a = b)
  | .bool a, .bool b => decide (a = b)
  | .string a, .string b => decide (a.data.toList = b.data.toList)
  | .nilIface, .nilIface => true
  | .pointer none, .pointer none => true
  | _, _ => false
theorem beqV_ok {a b : Value} (h : beqV a b = true) : a = b := by
  unfold beqV at h
  split at h
  · simp only [Bool.and_eq_true, decide_eq_true_eq] at h; obtain ⟨rfl, rfl⟩ := h; rfl
  · simp only [decide_eq_true_eq] at h; rw [h]
  · rename_i a b
    simp only [decide_eq_true_eq] at h
    obtain ⟨a⟩ := a
    obtain ⟨b⟩ := b
    have : a = b := Array.ext' h
    rw [this]
  · rfl
  · rfl
  · cases h

def beqL {α : Type} (f : α → α → Bool) : List α → List α → Bool
  | [], [] => true
  | x :: l, y :: l' => match f x y with
    | true => beqL f l l'
    | false => false
  | _, _ => false
theorem beqL_ok {α : Type} {f : α → α → Bool} (hf : ∀ x y, f x y = true → x = y) : ∀ {l l' : List α}, beqL f l l' = true → l = l'
  | [], [], _ => rfl
  | x :: l, y :: l', h => by
    simp only [beqL] at h
    split at h
    · rename_i e; rw [hf _ _ e, beqL_ok hf h]
    · cases h
  | [], _ :: _, h => by cases h
  | _ :: _, [], h => by cases h

def beqC : Nat → SC → SC → Bool
  | 0, _, _ => false
  | n + 1, a, b => match a, b with
    | .lit a, .lit b => beqV a b
    | .ints a, .ints b => beqL (fun x y => decide (x = y)) a b
    | .view a, .view b => beqL (beqL (beqC n)) a b
    | .ref a, .ref b => beqL (beqC n) a b
    | _, _ => false
theorem beqC_ok : ∀ (n : Nat) (a b : SC), beqC n a b = true → a = b
  | 0, _, _, h => by cases h
  | n + 1, a, b, h => by
    unfold beqC at h
    split at h
    · rw [beqV_ok h]
    · rw [beqL_ok (fun x y e => of_decide_eq_true e) h]
    · rw [beqL_ok (fun x y e => beqL_ok (fun x y e => beqC_ok n x y e) e) h]
    · rw [beqL_ok (fun x y e => beqC_ok n x y e) h]
    · cases h
def beqX (x y : SV) : Bool := match decide (x.1 = y.1) with
  | true => beqL (beqC 6) x.2 y.2
  | false => false
theorem beqX_ok {x y : SV} (h : beqX x y = true) : x = y := by
  unfold beqX at h
  split at h
  · rename_i e
    obtain ⟨a, b⟩ := x
    obtain ⟨c, d⟩ := y
    have h1 := of_decide_eq_true e
    have h2 := beqL_ok (beqC_ok 6) h
    simp only at h1 h2
    rw [h1, h2]
  · cases h

abbrev Memo := List (FuncId × List SV × Res)
def memo : Memo → CL
  | [], f, _ => .inl [f, 1000040]
  | (g, l, r) :: t, f, args => match Nat.beq f g with
    | true => match beqL beqX args l with
      | true => .inr r
      | false => memo t f args
    | false => memo t f args
def MemoOk (P : Program) (gl : Glob) (t : Memo) : Prop := ∀ p ∈ t, Sat P gl p.1 p.2.1 p.2.2
theorem memo_ok {P : Program} {gl : Glob} : ∀ {t : Memo}, MemoOk P gl t → ∀ f a r, memo t f a = .inr r → Sat P gl f a r
  | [], _, f, a, r, h => by cases h
  | (g, l, r0) :: t, ht, f, a, r, h => by
    unfold memo at h
    have hr := memo_ok (t := t) (fun p hp => ht p (List.mem_cons_of_mem _ hp)) f a r
    split at h
    · rename_i e
      split at h
      · rename_i e2
        cases h
        rw [Nat.eq_of_beq_eq_true e, beqL_ok (fun x y => beqX_ok) e2]
        exact ht _ List.mem_cons_self
      · exact hr h
    · exact hr h
theorem MemoOk.cons {P : Program} {gl : Glob} {t : Memo} {f : FuncId} {l : List SV} {r : Res} (h : Sat P gl f l r) (ht : MemoOk P gl t) : MemoOk P gl ((f, l, r) :: t) := fun p hp => by
  rcases List.mem_cons.1 hp with rfl | hp
  · exact h
  · exact ht p hp
theorem MemoOk.nil {P : Program} {gl : Glob} : MemoOk P gl [] := fun p hp => by cases hp
/-- What is known by the table, or else. -/
def orE (a b : CL) : CL := fun f args => match a f args with
  | .inr r => .inr r
  | .inl _ => b f args
theorem orE_ok {P : Program} {gl : Glob} {a b : CL} (ha : ∀ f x r, a f x = .inr r → Sat P gl f x r) (hb : ∀ f x r, b f x = .inr r → Sat P gl f x r) : ∀ f x r, orE a b f x = .inr r → Sat P gl f x r := by
  intro f x r h
  unfold orE at h
  split at h
  · rename_i e; cases h; exact ha _ _ _ e
  · exact hb _ _ _ h
/-! For printing: a result as numbers. -/
def nV : Value → List Nat
  | .int _ n => [1, (if n < 0 then 1 else 0), n.natAbs]
  | .bool b => [2, if b then 1 else 0]
  | .string s => [3, s.data.toList.length] ++ s.data.toList.map fun c => c.toNat
  | .nilIface => [6]
  | .pointer none => [7]
  | _ => [9]
def nC : Nat → SC → List Nat
  | 0, _ => [8]
  | n + 1, c => match c with
    | .lit v => nV v
    | .ints l => [4, l.length] ++ (l.map fun n => [(if n < 0 then 1 else 0), n.natAbs]).flatten
    | .view l => [5, l.length] ++ (l.map fun e => e.length :: (e.map (nC n)).flatten).flatten
    | .ref l => [10, l.length] ++ (l.map (nC n)).flatten
    | _ => [8]
def nX (x : SV) : List Nat := (if x.1 then 1 else 0) :: x.2.length :: (x.2.map (nC 6)).flatten
def nRes : Res → List Nat
  | .one x => 1 :: nX x
  | .tup l => 2 :: l.length :: (l.map nX).flatten
  | .own z c => 3 :: z :: nC 6 c
  | _ => [9]
def nOut : Sum (List Nat) Res → List Nat
  | .inl p => 0 :: p
  | .inr r => 1 :: nRes r
end Go.Fw
