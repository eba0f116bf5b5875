/- Framework, part a: static data of Go values (SC), how memory reads as static data (Rep), and what a call's contract says (Sat). Program independent. -/

import Derived.Orders
import Derived.Below
import Derived.Laws.Entries
import Derived.Laws.Cells
import Derived.RangeFuncOwn
import Derived.RangeFuncFrom
import Derived.RangeFuncBound
import Derived.Laws.CopyRow
import Derived.Laws.Append
import Derived.Laws.StructEq
namespace Go.Fw
open Go.RowKit (Below)
inductive SC where
  | lit (v : Value)
  | ints (xs : List Int)
  | view (es : List (List SC))
  | ref (cs : List SC)
  | fn (f : FuncId) (first : List (Bool × List SC)) (caps : List (List SC))
  | err
  | num (k : IntKind)
  | raw (v : Value)
  | any
  deriving Inhabited
abbrev SV := Bool × List SC
namespace SC
def isView : SC → Bool
  | .ints _ | .view _ => true
  | _ => false
def len : SC → Nat
  | .ints xs => xs.length
  | .view es => es.length
  | _ => 0
def elem : SC → Nat → Option (List SC)
  | .ints xs, i => (xs[i]?).map fun n => [.lit (.int .i64 n)]
  | .view es, i => es[i]?
  | _, _ => none
end SC
theorem SC.elem_lt {c : SC} {i : Nat} {e : List SC} (h : c.elem i = some e) : i < c.len := by
  cases c <;> simp [SC.elem, SC.len] at h ⊢
  case ints xs => obtain ⟨a, ha, _⟩ := h; exact (List.getElem?_eq_some_iff.1 ha).1
  case view es => exact (List.getElem?_eq_some_iff.1 h).1
theorem SC.elem_of_lt {c : SC} {i : Nat} (h : i < c.len) : ∃ e, c.elem i = some e := by
  cases c <;> simp [SC.elem, SC.len] at h ⊢
  case ints xs => exact ⟨[.lit (.int .i64 xs[i])], xs[i], by simp [h], rfl⟩
  case view es => exact ⟨es[i], by simp⟩
def plain : Value → Bool
  | .bool _ | .int _ _ | .float _ _ | .complex _ _ _ | .string _ | .nilFunc | .nilIface | .pointer none | .map none | .chan none => true
  | _ => false
abbrev Mem := Nat → Nat → Option Value
def Mem.le (m m' : Mem) : Prop := ∀ b o v, m b o = some v → m' b o = some v
def nomem : Mem := fun _ _ => none
def rd (w : World) : Mem := fun b o => w.cell? ⟨b, o, none⟩
theorem Mem.le_refl (m : Mem) : m.le m := fun _ _ _ h => h
theorem Mem.le_trans {a b c : Mem} (h : a.le b) (k : b.le c) : a.le c := fun x y v e => k x y v (h x y v e)
theorem nomem_le (m : Mem) : nomem.le m := fun _ _ _ h => by simp [nomem] at h
inductive Rep (mv : Mem) : Mem → Value → SC → Prop
  | lit {mr : Mem} {v : Value} (h : plain v = true) : Rep mv mr v (.lit v)
  | empty {mr : Mem} {c : SC} (a : Option Addr) (cap : Nat) (hv : c.isView = true) (h0 : c.len = 0) : Rep mv mr (.slice a 0 cap) c
  | view {mr : Mem} {c : SC} (b o cap z : Nat) (f : Nat → Value) (hv : c.isView = true) (hpos : 0 < c.len) (hz : 0 < z) (hcap : c.len ≤ cap)
      (hl : ∀ i e, c.elem i = some e → e.length = z) (hc : ∀ k, k < c.len * z → mv b (o + k) = some (f k))
      (hr : ∀ (i : Nat) (e : List SC) (j : Nat) (x : SC), c.elem i = some e → e[j]? = some x → Rep mv nomem (f (i * z + j)) x) : Rep mv mr (.slice (some ⟨b, o, none⟩) c.len cap) c
  | ref {mr : Mem} {cs : List SC} (b o : Nat) (f : Nat → Value) (hc : ∀ k, k < cs.length → mr b (o + k) = some (f k))
      (hr : ∀ (k : Nat) (x : SC), cs[k]? = some x → Rep mv mr (f k) x) : Rep mv mr (.pointer (some ⟨b, o, none⟩)) (.ref cs)
  | err {mr : Mem} {v : Value} (h : ∃ T x, v = .iface T x) : Rep mv mr v .err
  | num {mr : Mem} {v : Value} {k : IntKind} (h : ∃ m, v = .int k m) : Rep mv mr v (.num k)
  | raw {mr : Mem} {v : Value} (h : v.oneCell' = true) : Rep mv mr v (.raw v)
  | any {mr : Mem} {v : Value} (h : v.oneCell' = true) : Rep mv mr v .any
  | fn {mr : Mem} {f : FuncId} {first : List (Bool × List SC)} {caps : List (List SC)} (fv cv : Array Value) (ga : Nat → Array Value) (h1 : fv.size = first.length) (h2 : cv.size = caps.length)
      (hf1 : ∀ (j : Nat) (c : SC), first[j]? = some (false, [c]) → Rep mv mr (fv.getD j undef) c) (hf0 : ∀ (j : Nat) (cs : List SC), first[j]? = some (false, cs) → ∃ c, cs = [c])
      (hf2 : ∀ (j : Nat) (cs : List SC), first[j]? = some (true, cs) → fv.getD j undef = .agg (ga j) ∧ (ga j).size = cs.length)
      (hf3 : ∀ (j : Nat) (cs : List SC) (k : Nat) (x : SC), first[j]? = some (true, cs) → cs[k]? = some x → Rep mv mr ((ga j).getD k undef) x)
      (hcp : ∀ (j : Nat) (cs : List SC), caps[j]? = some cs → Rep mv mr (cv.getD j undef) (.ref cs)) : Rep mv mr (.func (.func f) fv cv) (.fn f first caps)
theorem Rep.mono {mv mr mv' mr' : Mem} (hv : mv.le mv') (hr : mr.le mr') {v : Value} {c : SC} (h : Rep mv mr v c) : Rep mv' mr' v c := by
  induction h generalizing mr' with
  | lit h => exact .lit h
  | empty a cap hv h0 => exact .empty a cap hv h0
  | view b o cap z f h1 h2 h3 h4 hl hc _ ih => exact .view b o cap z f h1 h2 h3 h4 hl (fun k hk => hv _ _ _ (hc k hk)) fun i e j x he hx => ih i e j x he hx (Mem.le_refl _)
  | ref b o f hc _ ih => exact .ref b o f (fun k hk => hr _ _ _ (hc k hk)) fun k x hx => ih k x hx hr
  | err h => exact .err h
  | num h => exact .num h
  | raw h => exact .raw h
  | any h => exact .any h
  | fn fv cv ga h1 h2 _ hf0 hf2 _ _ i1 i3 ic => exact .fn fv cv ga h1 h2 (fun j c hc => i1 j c hc hr) hf0 hf2 (fun j cs k x h1 h2 => i3 j cs k x h1 h2 hr) fun j cs hc => ic j cs hc hr
def SC.flat : SC → Bool
  | .ref _ | .fn _ _ _ => false
  | _ => true
theorem Rep.flat {mv mr mr' : Mem} {v : Value} {c : SC} (h : Rep mv mr v c) (hf : c.flat = true) : Rep mv mr' v c := by
  cases h with
  | lit h => exact .lit h
  | empty a cap hv h0 => exact .empty a cap hv h0
  | view b o cap z f h1 h2 h3 h4 hl hc hr => exact .view b o cap z f h1 h2 h3 h4 hl hc hr
  | ref b o f hc _ => simp [SC.flat] at hf
  | err h => exact .err h
  | num h => exact .num h
  | raw h => exact .raw h
  | any h => exact .any h
  | fn => simp [SC.flat] at hf
def RepB (mv mr : Mem) (v : Value) (x : SV) : Prop :=
  if x.1 then ∃ arr, v = .agg arr ∧ arr.size = x.2.length ∧ ∀ k c, x.2[k]? = some c → Rep mv mr (arr.getD k undef) c
  else ∃ c, x.2 = [c] ∧ Rep mv mr v c
theorem RepB.mono {mv mr mv' mr' : Mem} (hv : mv.le mv') (hr : mr.le mr') {v : Value} {x : SV} (h : RepB mv mr v x) : RepB mv' mr' v x := by
  unfold RepB at *
  split
  · rename_i hx
    rw [if_pos hx] at h
    obtain ⟨arr, h1, h2, h3⟩ := h
    exact ⟨arr, h1, h2, fun k c hc => (h3 k c hc).mono hv hr⟩
  · rename_i hx
    rw [if_neg hx] at h
    obtain ⟨c, h1, h2⟩ := h
    exact ⟨c, h1, h2.mono hv hr⟩
def RepL (mv mr : Mem) (vs : Array Value) (l : List SV) : Prop := vs.size = l.length ∧ ∀ k x, l[k]? = some x → RepB mv mr (vs.getD k undef) x
theorem RepL.mono {mv mr mv' mr' : Mem} (hv : mv.le mv') (hr : mr.le mr') {vs : Array Value} {l : List SV} (h : RepL mv mr vs l) : RepL mv' mr' vs l :=
  ⟨h.1, fun k x hx => (h.2 k x hx).mono hv hr⟩
def RowAt (w : World) (mv : Mem) (b z : Nat) (c : SC) (cap : Nat) : Prop :=
  ∃ arr T, w.heap[b]? = some (.cells arr T) ∧ arr.size = cap * z ∧ 0 < z ∧ c.isView = true ∧ c.len ≤ cap ∧ (∀ i e, c.elem i = some e → e.length = z) ∧
    ∀ i e j x, c.elem i = some e → e[j]? = some x → Rep mv nomem (arr.getD (i * z + j) undef) x
inductive Res where
  | one (x : SV)
  | tup (l : List SV)
  | own (z : Nat) (c : SC)
  | mix (t : Bool) (l : List (Bool × List (Option SC))) (z : Nat) (c : SC)
  | upd (z : Nat) (c : SC)
def RepC (m : Mem) (vo v : Value) : Option SC → Prop
  | some c => Rep m nomem v c
  | none => v = vo
def RepO (m : Mem) (vo v : Value) (x : Bool × List (Option SC)) : Prop :=
  if x.1 then ∃ arr, v = .agg arr ∧ arr.size = x.2.length ∧ ∀ k c, x.2[k]? = some c → RepC m vo (arr.getD k undef) c
  else ∃ c, x.2 = [c] ∧ RepC m vo v c
theorem RepO.mono {m m' : Mem} (h : m.le m') {vo v : Value} {x : Bool × List (Option SC)} (hx : RepO m vo v x) : RepO m' vo v x := by
  have key : ∀ {v : Value} {c : Option SC}, RepC m vo v c → RepC m' vo v c := by
    intro v c hc
    cases c with
    | none => exact hc
    | some c => exact Rep.mono h (Mem.le_refl _) hc
  unfold RepO at *
  split
  · rename_i hg
    rw [if_pos hg] at hx
    obtain ⟨arr, h1, h2, h3⟩ := hx
    exact ⟨arr, h1, h2, fun k c hc => key (h3 k c hc)⟩
  · rename_i hg
    rw [if_neg hg] at hx
    obtain ⟨c, h1, h2⟩ := hx
    exact ⟨c, h1, key h2⟩
def mvAfter (mv : Mem) (n : Nat) (w' : World) : Mem := fun b o => if n ≤ b then rd w' b o else mv b o
def Mem.but (m : Mem) (b : Nat) : Mem := fun b' o => if b' = b then none else m b' o
def RepRes (mv : Mem) (n : Nat) (w' : World) (v : Value) : Res → Prop
  | .one x => RepB (mvAfter mv n w') nomem v x
  | .tup l => ∃ arr, v = .tuple arr ∧ RepL (mvAfter mv n w') nomem arr l
  | .own z c => (v = .slice none 0 0 ∧ c.len = 0 ∧ c.isView = true ∧ 0 < z ∧ ∀ i e, c.elem i = some e → e.length = z) ∨
      ∃ b cap, v = .slice (some ⟨b, 0, none⟩) c.len cap ∧ n ≤ b ∧ RowAt w' ((mvAfter mv n w').but b) b z c cap
  | .mix t l z c => ∃ vo m, ((vo = .slice none 0 0 ∧ c.len = 0 ∧ c.isView = true ∧ 0 < z ∧ (∀ i e, c.elem i = some e → e.length = z) ∧ m = mvAfter mv n w') ∨
      ∃ b cap, vo = .slice (some ⟨b, 0, none⟩) c.len cap ∧ n ≤ b ∧ RowAt w' ((mvAfter mv n w').but b) b z c cap ∧ m = (mvAfter mv n w').but b) ∧
      if t then ∃ arr, v = .tuple arr ∧ arr.size = l.length ∧ ∀ k x, l[k]? = some x → RepO m vo (arr.getD k undef) x else ∃ x, l = [x] ∧ RepO m vo v x
  | .upd _ _ => False
abbrev Glob := List (Nat × List SC)
def GlobOK (gl : Glob) (m : Mem) : Prop := ∀ g cs, (g, cs) ∈ gl → (∀ k x, cs[k]? = some x → ∃ v, m g k = some v ∧ Rep nomem nomem v x) ∧ (0 < cs.length → m g cs.length = none)
def fnOk (P : Program) (f : FuncId) : Bool :=
  match P.funcs[f]? with
  | some fn => !(fn.name == "runtime.NumGoroutine") && fn.body.isSome
  | none => false
def SatP (P : Program) (gl : Glob) (f : FuncId) (args : List SV) (r : Res) : Prop :=
  fnOk P f = true ∧ ∀ (mv : Mem) (w : World) (vs : Array Value), mv.le (rd w) → GlobOK gl (rd w) → RepL mv (rd w) vs args →
    Calls P f vs w fun e w' => ∃ v, e = .returned v ∧ Below w.heap.size w w' ∧ RepRes mv w.heap.size w' v r
def SatI (P : Program) (f : FuncId) (args : List SV) : Res → Prop
  | .upd z c' => ∃ c, args = [(false, [c])] ∧ fnOk P f = true ∧ c'.isView = true ∧ c'.len = c.len ∧ (∀ i e, c'.elem i = some e → e.length = z) ∧
      (c.len = 0 → ∀ w, Calls P f #[.slice none 0 0] w fun e w' => e = .returned (.tuple #[]) ∧ Below w.heap.size w w') ∧
      ∀ (mv : Mem) (w : World) (b cap : Nat) (arr : Array Value) (T : TypeId), w.heap[b]? = some (.cells arr T) → arr.size = cap * z → c.len ≤ cap →
        (∀ i e j x, c.elem i = some e → e[j]? = some x → Rep mv nomem (arr.getD (i * z + j) undef) x) →
        Calls P f #[.slice (some ⟨b, 0, none⟩) c.len cap] w fun e w' => e = .returned (.tuple #[]) ∧ ∃ w1 arr', Below w.heap.size w w1 ∧ w' = w1.setRow b arr' ∧ arr'.size = arr.size ∧
          ∀ i e j x, c'.elem i = some e → e[j]? = some x → Rep mv nomem (arr'.getD (i * z + j) undef) x
  | _ => False
def Sat (P : Program) (gl : Glob) (f : FuncId) (args : List SV) (r : Res) : Prop := SatP P gl f args r ∨ SatI P f args r
theorem Sat.pure {P : Program} {gl : Glob} {f : FuncId} {args : List SV} {x : SV} (h : Sat P gl f args (.one x)) : SatP P gl f args (.one x) := h.elim id fun h => h.elim
end Go.Fw
namespace Go.Fw
inductive DC where
  | st (c : SC)
  | ptr (id off : Nat)
  | own (id : Nat)
  | rptr (id z i off : Nat)
  | nil
  | mp (id : Nat)
  | clo (f : Nat) (id : Nat)
  deriving Inhabited
abbrev DX := Bool × List DC
inductive DV where
  | val (x : DX)
  | tup (l : List DX)
  deriving Inhabited
inductive Blk where
  | box (t : TypeId) (cs : List DC)
  | fbox (cs : List SC)
  | row (m : Bool) (z : Nat) (c : SC)
  | rowD (z : Nat) (l : List (List DC))
  | map (es : List (ByteArray × SV))
  deriving Inhabited
def Blk.sz : Blk → Option (Nat × Nat)
  | .row _ z c => some (z, c.len)
  | .rowD z l => some (z, l.length)
  | _ => none
abbrev Hp := List (Nat × Option Blk)
def Hp.get : Hp → Nat → Option Blk
  | [], _ => none
  | (j, b) :: H, i => match Nat.beq i j with
    | true => b
    | false => Hp.get H i
abbrev HF := Nat → Option Blk
abbrev EF := Nat → Option DV
abbrev Env := List (Nat × Option DV)
def Env.get : Env → Nat → Option DV
  | [], _ => none
  | (j, b) :: H, i => match Nat.beq i j with
    | true => b
    | false => Env.get H i
inductive Cls where
  | int (k : IntKind) | bool | str | slice (e : TypeId) | array (n : Nat) (e : TypeId) | struct (fs : List (Nat × TypeId)) | ptr (e : TypeId) | func | iface | map (k e : TypeId) | other
  deriving Inhabited
def clsAg : Cls → Bool
  | .struct _ => true
  | .array _ _ => true
  | _ => false
inductive ZC where
  | lit (v : Value)
  | nil
  deriving Inhabited
structure TI where
  cls : Cls
  size : Nat
  bytes : Nat
  zero : List ZC
  kinds : List Bool
  eqs : Option (List Cls)
  deriving Inhabited
def clsOf : TypeDesc → Cls
  | .int k => .int k
  | .bool => .bool
  | .string => .str
  | .slice e => .slice e
  | .array n e => .array n e
  | .struct fs => .struct (fs.toList.map fun f => (f.offset, f.type))
  | .pointer e => .ptr e
  | .func _ _ _ => .func
  | .interface _ => .iface
  | .map k e => .map k e
  | _ => .other
def zcOf : Value → ZC
  | .slice none 0 0 => .nil
  | v => .lit v
def leaves (P : Program) : Nat → TypeId → Option (List Cls)
  | 0, _ => none
  | d + 1, t => match P.info? t, P.underlying t with
    | some i, some .bool => if i.size = 1 then some [.bool] else none
    | some i, some (.int k) => if i.size = 1 then some [.int k] else none
    | some i, some .string => if i.size = 1 then some [.str] else none
    | some i, some (.struct fs) => match P.stoodInHeld t, fs.toList.foldl (fun acc f => match acc with
        | none => none
        | some l => match f.name != "_" && f.offset == l.length, leaves P d f.type with
          | true, some l' => some (l ++ l')
          | _, _ => none) (some []) with
      | false, some l => if l.length = i.size then some l else none
      | _, _ => none
    | some i, some (.array n e) => match leaves P d e with
      | some l => if n * l.length = i.size then some (List.replicate n l).flatten else none
      | none => none
    | _, _ => none
def tiOf (P : Program) (t : TypeId) : Option (Cls × Nat × Nat × List ZC × Option (List Cls)) :=
  match P.info? t, P.underlying t with
  | some i, some d => match i.zero, (match d with | .struct fs => fs.toList.all fun f => (P.info? f.type).isSome | _ => true) with
    | some v, true => some (clsOf d, i.size, i.bytes, v.cells.toList.map zcOf, if P.eqGuardType P.depth t then none else leaves P 8 t)
    | _, _ => none
  | _, _ => none
structure Ctx where
  P : Program
  gl : Glob
  ty : List (Nat × TI)
  nx : List Nat := []
  deep : List Nat := []
  mz : List (Nat × Bool) := []
  hx : List Nat := []
  fx : List Nat := []
  sx : List (Nat × String) := []
def zeroAg (P : Program) (t : TypeId) : Option Bool := match P.info? t with
  | some i => match i.zero with
    | some (.agg _) => some true
    | some v => match v.oneCell' with
      | true => some false
      | false => none
    | none => none
  | none => none
def tyGet : List (Nat × TI) → Nat → Option TI
  | [], _ => none
  | (j, b) :: H, i => match Nat.beq i j with
    | true => some b
    | false => tyGet H i
def Ctx.ti (C : Ctx) (t : TypeId) : Option TI := tyGet C.ty t
structure Ctx.Ok (C : Ctx) : Prop where
  mixed : C.P.follows .mixedOrders = true
  ty : (C.ty.map fun p => tiOf C.P p.1) = C.ty.map fun p => some (p.2.cls, p.2.size, p.2.bytes, p.2.zero, p.2.eqs)
  mz : (C.mz.map fun p => zeroAg C.P p.1) = C.mz.map fun p => some p.2
def Ctx.isInts (C : Ctx) (e : TypeId) : Bool :=
  match C.ti e with
  | some i => match i.cls with
    | .int .i64 => true
    | _ => false
  | none => false
def Ctx.kinds (C : Ctx) (t : TypeId) : List Bool :=
  match C.ti t with
  | some i => i.kinds
  | none => []
def nilOf : Bool → SC
  | true => .ints []
  | false => .view []
def stat1 (H : HF) (k : Bool) : DC → Option (SC × Hp × List Nat)
  | .st c => some (c, [], [])
  | .nil => some (nilOf k, [], [])
  | .own id => match H id with
    | some (.row m z c) => some (c, (match m with | true => [(id, some (.row false z c))] | false => []), [id])
    | some (.rowD _ _) => some (.any, [], [id])
    | _ => none
  | _ => none
def stat1L (H : HF) : List Bool → List DC → Option (List SC × Hp × List Nat)
  | _, [] => some ([], [], [])
  | ks, d :: ds => match stat1 H (ks.headD false) d with
    | some (c, u, r) => match stat1L H ks.tail ds with
      | some (cs, u', r') => some (c :: cs, u ++ u', r ++ r')
      | none => none
    | none => none
def flats : List SC → Bool
  | [] => true
  | c :: cs => match c.flat with
    | true => flats cs
    | false => false
def stat (C : Ctx) (H : HF) (k : Bool) : DC → Option (SC × Hp × List Nat)
  | .ptr id off => match H id with
    | some (.fbox cs) => some (.ref (cs.drop off), [], [id])
    | some (.box t cs) => match stat1L H (C.kinds t) cs with
      | some (l, u, r) => some (.ref (l.drop off), u, id :: r)
      | none => none
    | _ => none
  | .rptr id z i off => match H id with
    | some (.rowD z' l) => match Nat.beq z z', l[i]? with
      | true, some e => match stat1L H [] e with
        | some (cs, u, r) => some (.ref (cs.drop off), u, id :: r)
        | none => none
      | _, _ => none
    | some (.row _ z' c) => match Nat.beq z z', c.elem i with
      | true, some e => some (.ref (e.drop off), [], [id])
      | _, _ => none
    | _ => none
  | d => stat1 H k d
def statL (C : Ctx) (H : HF) : List Bool → List DC → Option (List SC × Hp × List Nat)
  | _, [] => some ([], [], [])
  | ks, d :: ds => match stat C H (ks.headD false) d with
    | some (c, u, r) => match statL C H ks.tail ds with
      | some (cs, u', r') => some (c :: cs, u ++ u', r ++ r')
      | none => none
    | none => none
def statA (C : Ctx) (H : HF) : List TypeId → List DX → Option (List SV × Hp × List Nat)
  | _, [] => some ([], [], [])
  | ts, x :: xs => match statL C H (C.kinds (ts.headD 0)) x.2 with
    | some (c, u, r) => match statA C H ts.tail xs with
      | some (cs, u', r') => some ((x.1, c) :: cs, u ++ u', r ++ r')
      | none => none
    | none => none
def dyn (x : SV) : DX := (x.1, x.2.map .st)
def one (c : DC) : DV := .val (false, [c])
def lit (v : Value) : DV := .val (false, [.st (.lit v)])
def constDV : Value → Option DV
  | .slice none 0 0 => some (one .nil)
  | .func (.func f) a b => match a.toList, b.toList with
    | [], [] => some (one (.st (.fn f [] [])))
    | _, _ => none
  | v => match plain v with
    | true => some (lit v)
    | false => none
def globGet : Glob → Nat → Option (List SC)
  | [], _ => none
  | (j, b) :: H, i => match Nat.beq i j with
    | true => some b
    | false => globGet H i
def Ctx.ev (C : Ctx) (E : EF) : Operand → Option DV
  | .tmp t => E t
  | .const v => constDV v
  | .global g => match globGet C.gl g with
    | some cs => some (one (.st (.ref cs)))
    | none => none
  | .func f => some (one (.st (.fn f [] [])))
def splice {α : Type} (cs : List α) (off : Nat) (xs : List α) : List α := cs.take off ++ xs ++ cs.drop (off + xs.length)
def ZC.dyn : ZC → Option DC
  | .nil => some .nil
  | .lit v => match plain v with
    | true => some (.st (.lit v))
    | false => none
def zeros : List ZC → Option (List DC)
  | [] => some []
  | z :: zs => match z.dyn with
    | some d => match zeros zs with
      | some ds => some (d :: ds)
      | none => none
    | none => none
def zerosS : List Bool → List ZC → Option (List SC)
  | _, [] => some []
  | ks, .nil :: zs => match zerosS ks.tail zs with
    | some ds => some (nilOf (ks.headD false) :: ds)
    | none => none
  | ks, .lit v :: zs => match plain v with
    | true => match zerosS ks.tail zs with
      | some ds => some (.lit v :: ds)
      | none => none
    | false => none
def fillD (place : Nat → Option (Nat × Nat)) (cells : List DC) : List (Nat × Option DV) → Option (List DC)
  | [] => some cells
  | (i, some (.val x)) :: rest => match place i with
    | some (off, size) => match Nat.beq x.2.length size && Nat.ble (off + size) cells.length with
      | true => fillD place (splice cells off x.2) rest
      | false => none
    | none => none
  | _ => none
def litElems (H : HF) (ks : List Bool) (z : Nat) : Nat → List (Nat × Option DV) → Option (List (List SC) × Hp × List Nat)
  | _, [] => some ([], [], [])
  | n, (i, some (.val x)) :: rest => match Nat.beq i n && Nat.beq x.2.length z with
    | true => match stat1L H ks x.2 with
      | some (e, u, r) => match flats e, litElems H ks z (n + 1) rest with
        | true, some (es, u', r') => some (e :: es, u ++ u', r ++ r')
        | _, _ => none
      | none => none
    | false => none
  | _, _ => none
def toInts : List (List SC) → Option (List Int)
  | [] => some []
  | [.lit (.int .i64 n)] :: r => match toInts r with
    | some l => some (n :: l)
    | none => none
  | _ => none
def mkRow (k : Bool) (es : List (List SC)) : Option SC :=
  match k with
  | true => match toInts es with
    | some l => some (.ints l)
    | none => none
  | false => some (.view es)
def SC.cat : SC → SC → Option SC
  | .ints xs, .ints ys => some (.ints (xs ++ ys))
  | .view xs, .view ys => some (.view (xs ++ ys))
  | _, _ => none
def SC.uni : SC → Nat → Prop
  | .ints _, z => z = 1
  | .view es, z => ∀ e, e ∈ es → e.length = z
  | _, _ => False
def SC.setElem : SC → Nat → List SC → Option SC
  | .ints xs, i, [.lit (.int .i64 n)] => some (.ints (xs.set i n))
  | .view es, i, e => some (.view (es.set i e))
  | _, _, _ => none
def SC.sub : SC → Nat → Nat → SC
  | .ints xs, l, h => .ints ((xs.take h).drop l)
  | .view es, l, h => .view ((es.take h).drop l)
  | c, _, _ => c
def LIM : Nat := 4294967296
def litEq : Cls → Value → Value → Option Bool
  | .int _, .int k a, .int k' b => match decide (k = k') with
    | true => some (a == b)
    | false => none
  | .bool, .bool a, .bool b => some (a == b)
  | .str, .string a, .string b => some (a == b)
  | _, _, _ => none
def eqCells : List Cls → List DC → List DC → Option Bool
  | [], [], [] => some true
  | c :: cs, .st (.lit a) :: xs, .st (.lit b) :: ys => match litEq c a b with
    | some p => match eqCells cs xs ys with
      | some q => some (p && q)
      | none => none
    | none => none
  | _, _, _ => none
def intBin (op : BinOp) (k : IntKind) (a b : Int) (K : Value → Prop) : Prop :=
  match op with
  | .add => K (.int k (k.wrap (a + b)))
  | .sub => K (.int k (k.wrap (a - b)))
  | .mul => K (.int k (k.wrap (a * b)))
  | .quo => b ≠ 0 ∧ K (.int k (k.wrap (a.tdiv b)))
  | .rem => b ≠ 0 ∧ K (.int k (a.tmod b))
  | .and => K (.int k (k.wrap (BitVec.ofInt k.bits a &&& BitVec.ofInt k.bits b).toNat))
  | .or => K (.int k (k.wrap (BitVec.ofInt k.bits a ||| BitVec.ofInt k.bits b).toNat))
  | .xor => K (.int k (k.wrap (BitVec.ofInt k.bits a ^^^ BitVec.ofInt k.bits b).toNat))
  | .andNot => K (.int k (k.wrap (BitVec.ofInt k.bits a &&& ~~~BitVec.ofInt k.bits b).toNat))
  | .eql => K (.bool (a == b))
  | .neq => K (.bool (a != b))
  | .lss => K (.bool (decide (a < b)))
  | .leq => K (.bool (decide (a ≤ b)))
  | .gtr => K (.bool (decide (a > b)))
  | .geq => K (.bool (decide (a ≥ b)))
  | _ => False
def strBin (op : BinOp) (a b : ByteArray) (K : Value → Prop) : Prop :=
  match op with
  | .add => a.size + b.size ≤ 2 ^ 40 ∧ K (.string (a ++ b))
  | .eql => K (.bool (a.toList == b.toList))
  | .neq => K (.bool !(a.toList == b.toList))
  | .lss => K (.bool (Op.bytesLess a.toList b.toList))
  | .leq => K (.bool (Op.bytesLess a.toList b.toList || a.toList == b.toList))
  | .gtr => K (.bool !(Op.bytesLess a.toList b.toList || a.toList == b.toList))
  | .geq => K (.bool !(Op.bytesLess a.toList b.toList))
  | _ => False
def litBin (op : BinOp) : Value → Value → (Value → Prop) → Prop
  | .int k a, .int k' b, K => match op with
    | .shl => 0 ≤ b ∧ K (.int k (k.wrap (a * 2 ^ (min b.toNat k.bits))))
    | .shr => 0 ≤ b ∧ K (.int k (a.fdiv (2 ^ (min b.toNat k.bits))))
    | op => match decide (k = k') with
      | true => intBin op k a b K
      | false => False
  | .string a, .string b, K => strBin op a b K
  | _, _, _ => False
def isConstOp : Operand → Bool
  | .const _ => true
  | _ => false
def isPtr : DC → Option Bool
  | .ptr _ _ => some true
  | .rptr _ _ _ _ => some true
  | .st (.ref _) => some true
  | .st (.lit (.pointer none)) => some false
  | _ => none
def binA (C : Ctx) (nc : Bool) (op : BinOp) (T : TypeId) (x y : DX) (K : DV → Prop) : Prop :=
  match x, y with
  | (false, [.st (.lit (.bool a))]), (false, [.st (.lit (.bool b))]) => match C.ti T with
    | some i => match i.cls, op with
      | .bool, .eql => K (lit (.bool (a == b)))
      | .bool, .neq => K (lit (.bool !(a == b)))
      | _, _ => False
    | none => False
  | (false, [.st (.lit .nilIface)]), (false, [.st (.lit .nilIface)]) => match C.ti T, nc with
    | some i, true => match i.cls, op with
      | .iface, .eql => K (lit (.bool true))
      | .iface, .neq => K (lit (.bool false))
      | _, _ => False
    | _, _ => False
  | (false, [.st .err]), (false, [.st (.lit .nilIface)]) => match C.ti T with
    | some i => match i.cls, op with
      | .iface, .eql => K (lit (.bool false))
      | .iface, .neq => K (lit (.bool true))
      | _, _ => False
    | none => False
  | (false, [d]), (false, [.st (.lit (.pointer none))]) => match isPtr d, C.ti T with
    | some b, some i => match i.cls, op with
      | .ptr _, .eql => K (lit (.bool !b))
      | .ptr _, .neq => K (lit (.bool b))
      | _, _ => False
    | _, _ => False
  | (false, [.st (.lit a)]), (false, [.st (.lit b)]) => litBin op a b fun v => K (lit v)
  | (true, xs), (true, ys) => match C.ti T with
    | some i => match clsAg i.cls with
      | true => match i.eqs, op with
        | some l, .eql => match eqCells l xs ys with
          | some b => K (lit (.bool b))
          | none => False
        | some l, .neq => match eqCells l xs ys with
          | some b => K (lit (.bool !b))
          | none => False
        | _, _ => False
      | false => False
    | none => False
  | _, _ => False
def unA (op : UnOp) (x : DX) (K : DV → Prop) : Prop :=
  match op, x with
  | .neg, (false, [.st (.lit (.int k n))]) => K (lit (.int k (k.wrap (0 - n))))
  | .xor, (false, [.st (.lit (.int k n))]) => K (lit (.int k (k.wrap (BitVec.ofInt k.bits (if k.signed then -1 else k.max) ^^^ BitVec.ofInt k.bits n).toNat)))
  | .not, (false, [.st (.lit (.bool b))]) => K (lit (.bool !b))
  | _, _ => False
abbrev OpK := DV → Hp → List Nat → Prop
def loadA (C : Ctx) (T : TypeId) (x : DX) (H : HF) (K : OpK) : Prop :=
  match C.ti T with
  | none => False
  | some i =>
    match x with
    | (false, [.ptr id off]) => match H id with
      | some (.box _ cs) => match Nat.ble (off + i.size) cs.length && (clsAg i.cls || Nat.beq i.size 1) with
        | true => K (.val (clsAg i.cls, (cs.drop off).take i.size)) [] [id]
        | false => False
      | some (.fbox cs) => match Nat.ble (off + i.size) cs.length && (clsAg i.cls || Nat.beq i.size 1) with
        | true => K (.val (clsAg i.cls, ((cs.drop off).take i.size).map .st)) [] [id]
        | false => False
      | _ => False
    | (false, [.st (.ref cs)]) => match Nat.ble i.size cs.length && (clsAg i.cls || Nat.beq i.size 1) with
      | true => K (.val (clsAg i.cls, (cs.take i.size).map .st)) [] []
      | false => False
    | (false, [.rptr id z n off]) => match H id with
      | some (.row _ z' c) => match Nat.beq z z' && Nat.ble (off + i.size) z && (clsAg i.cls || Nat.beq i.size 1) with
        | true => ∃ e, c.elem n = some e ∧ K (.val (clsAg i.cls, ((e.drop off).take i.size).map .st)) [] [id]
        | false => False
      | some (.rowD z' l) => match Nat.beq z z' && Nat.ble (off + i.size) z && (clsAg i.cls || Nat.beq i.size 1) with
        | true => ∃ e, l[n]? = some e ∧ K (.val (clsAg i.cls, (e.drop off).take i.size)) [] [id]
        | false => False
      | _ => False
    | _ => False
def storeA (C : Ctx) (T : TypeId) (x v : DX) (H : HF) (K : OpK) : Prop :=
  match C.ti T with
  | none => False
  | some i => match Nat.beq v.2.length i.size with
    | false => False
    | true => match x with
      | (false, [.ptr id off]) => match H id with
        | some (.box t cs) => match Nat.ble (off + i.size) cs.length with
          | true => K (.tup []) [(id, some (.box t (splice cs off v.2)))] [id]
          | false => False
        | _ => False
      | (false, [.rptr id z n off]) => match H id with
        | some (.row true z' c) => match Nat.beq z z' && Nat.ble (off + i.size) z with
          | true => match stat1L H i.kinds v.2 with
            | some (l, [], r) => match flats l with
              | true => ∃ e, c.elem n = some e ∧ match c.setElem n (splice e off l) with
                | some c' => K (.tup []) [(id, some (.row true z' c'))] (id :: r)
                | none => False
              | false => False
            | _ => False
          | false => False
        | some (.rowD z' l) => match Nat.beq z z' && Nat.ble (off + i.size) z with
          | true => ∃ e, l[n]? = some e ∧ K (.tup []) [(id, some (.rowD z' (l.set n (splice e off v.2))))] [id]
          | false => False
        | _ => False
      | _ => False
def fieldAddrA (C : Ctx) (T : TypeId) (x : DX) (f : Nat) (K : OpK) : Prop :=
  match C.ti T with
  | none => False
  | some i => match i.cls with
    | .struct fs => match fs[f]? with
      | some (o, ft) => match C.ti ft with
        | some fi => match Nat.ble 1 fi.size with
          | true => match x with
            | (false, [.ptr id off]) => K (one (.ptr id (off + o))) [] []
            | (false, [.st (.ref cs)]) => K (one (.st (.ref (cs.drop o)))) [] []
            | (false, [.rptr id z n off]) => K (one (.rptr id z n (off + o))) [] []
            | _ => False
          | false => False
        | none => False
      | none => False
    | _ => False
def indexAddrA (C : Ctx) (T : TypeId) (x ix : DX) (H : HF) (K : OpK) : Prop :=
  match C.ti T with
  | none => False
  | some i => match i.cls, ix with
    | .slice e, (false, [.st (.lit (.int _ n))]) => match C.ti e with
      | none => False
      | some ie => match x with
        | (false, [.own id]) => match H id with
          | some (.row _ z c) => match Nat.beq z ie.size with
            | true => (0 ≤ n ∧ n < c.len) ∧ K (one (.rptr id z n.toNat 0)) [] [id]
            | false => False
          | some (.rowD z l) => match Nat.beq z ie.size with
            | true => (0 ≤ n ∧ n < l.length) ∧ K (one (.rptr id z n.toNat 0)) [] [id]
            | false => False
          | _ => False
        | (false, [.st c]) => match c.isView with
          | true => 0 ≤ n ∧ ∃ el, c.elem n.toNat = some el ∧ el.length = ie.size ∧ K (one (.st (.ref el))) [] []
          | false => False
        | _ => False
    | .array len e, (false, [.st (.lit (.int _ n))]) => match C.ti e with
      | none => False
      | some ie => match x with
        | (false, [.ptr id off]) => (0 ≤ n ∧ n < len) ∧ K (one (.ptr id (off + n.toNat * ie.size))) [] []
        | (false, [.st (.ref cs)]) => (0 ≤ n ∧ n < len) ∧ K (one (.st (.ref (cs.drop (n.toNat * ie.size))))) [] []
        | _ => False
    | _, _ => False
def isAg (i : TI) : Bool := clsAg i.cls
def partA (i : TI) (cs : List DC) (off : Nat) (K : OpK) : Prop :=
  match Nat.ble (off + i.size) cs.length && (isAg i || Nat.beq i.size 1) with
  | true => K (.val (isAg i, (cs.drop off).take i.size)) [] []
  | false => False
def indexA (C : Ctx) (T : TypeId) (x ix : DX) (K : OpK) : Prop :=
  match C.ti T with
  | none => False
  | some i => match i.cls, ix with
    | .array len e, (false, [.st (.lit (.int _ n))]) => match C.ti e with
      | none => False
      | some ie => match x with
        | (true, cs) => (0 ≤ n ∧ n < len) ∧ partA ie cs (n.toNat * ie.size) K
        | _ => False
    | .str, (false, [.st (.lit (.int _ n))]) => match x with
      | (false, [.st (.lit (.string s))]) => 0 ≤ n ∧ ∃ b, s[n.toNat]? = some b ∧ K (lit (.int .u8 (b.toNat : Nat))) [] []
      | _ => False
    | _, _ => False
def fieldA (C : Ctx) (T : TypeId) (x : DX) (f : Nat) (K : OpK) : Prop :=
  match C.ti T with
  | none => False
  | some i => match i.cls with
    | .struct fs => match fs[f]? with
      | some (o, ft) => match C.ti ft with
        | some fi => match x with
          | (true, cs) => partA fi cs o K
          | _ => False
        | none => False
      | none => False
    | _ => False
def bnd (d : Option (Option DV)) (dflt : Nat) (K : Nat → Prop) : Prop :=
  match d with
  | none => K dflt
  | some (some (.val (false, [.st (.lit (.int _ n))]))) => 0 ≤ n ∧ K n.toNat
  | _ => False
def sliceA (C : Ctx) (T : TypeId) (x : DX) (lo hi : Option (Option DV)) (H : HF) (K : OpK) : Prop :=
  match C.ti T with
  | none => False
  | some i => match i.cls with
    | .slice e => match C.ti e with
      | none => False
      | some ie => match stat1L H i.kinds x.2 with
        | some ([c], u, r) => match x.1, c.isView with
          | false, true => bnd lo 0 fun l => bnd hi c.len fun h => (l ≤ h ∧ h ≤ c.len) ∧ c.uni ie.size ∧ K (one (.st (c.sub l h))) u r
          | _, _ => False
        | _ => False
    | .str => match x with
      | (false, [.st (.lit (.string s))]) => bnd lo 0 fun l => bnd hi s.size fun h => (l ≤ h ∧ h ≤ s.size) ∧ K (lit (.string (s.extract l h))) [] []
      | _ => False
    | .array n e => match C.ti e with
      | none => False
      | some ie => match x, lo, hi with
        | (false, [.ptr id off]), none, none => match H id with
          | some (.box t cs) => match stat1L H (C.kinds t) cs with
            | some (l, u, r) => match C.isInts e, Nat.beq ie.size 1 && Nat.ble (off + n) l.length && Nat.ble 1 n with
              | true, true => match toInts (((l.drop off).take n).map fun c => [c]) with
                | some ns => K (one (.st (.ints ns))) ((id, some (.fbox l)) :: u) (id :: r)
                | none => False
              | _, _ => False
            | none => False
          | some (.fbox l) => match C.isInts e, Nat.beq ie.size 1 && Nat.ble (off + n) l.length && Nat.ble 1 n with
              | true, true => match toInts (((l.drop off).take n).map fun c => [c]) with
                | some ns => K (one (.st (.ints ns))) [] [id]
                | none => False
              | _, _ => False
          | _ => False
        | _, _, _ => False
    | _ => False
def makeFuncA (C : Ctx) (f : FuncId) (first caps : List (Option DV)) (H : HF) (K : OpK) : Prop :=
  let rec firsts : List (Option DV) → Option (List SV × Hp × List Nat)
    | [] => some ([], [], [])
    | some (.val x) :: xs => match stat1L H [] x.2 with
      | some (c, u, r) => match firsts xs with
        | some (cs, u', r') => some ((x.1, c) :: cs, u ++ u', r ++ r')
        | none => none
      | none => none
    | _ => none
  let rec capts : List (Option DV) → Option (List (List SC) × Hp × List Nat)
    | [] => some ([], [], [])
    | some (.val (false, [.ptr id 0])) :: xs => match H id with
      | some (.fbox cs) => match capts xs with
        | some (l, u', r') => some (cs :: l, u', id :: r')
        | none => none
      | some (.box t cs) => match stat1L H (C.kinds t) cs with
        | some (c, u, r) => match capts xs with
          | some (l, u', r') => some (c :: l, (id, some (.fbox c)) :: (u ++ u'), id :: (r ++ r'))
          | none => none
        | none => none
      | _ => none
    | some (.val (false, [.st (.ref cs)])) :: xs => match capts xs with
        | some (l, u', r') => some (cs :: l, u', r')
        | none => none
    | _ => none
  match firsts first with
  | some (a, u, r) => match capts caps with
    | some (b, u', r') => K (one (.st (.fn f a b))) (u ++ u') (r ++ r')
    | none => False
  | none => False
def makeSliceA (C : Ctx) (fid : Nat) (T : TypeId) (l c : DX) (K : OpK) : Prop :=
  match C.ti T with
  | none => False
  | some i => match i.cls, l, c with
    | .slice e, (false, [.st (.lit (.int _ n))]), (false, [.st (.lit (.int _ m))]) => match C.ti e with
      | none => False
      | some ie => match Nat.ble 1 ie.size && Nat.ble ie.bytes 4096 && Nat.beq ie.zero.length ie.size with
        | true => (0 ≤ n ∧ n ≤ m ∧ m ≤ LIM) ∧ match C.isInts e with
          | true => match ie.zero with
            | [.lit (.int .i64 0)] => K (one (.own fid)) [(fid, some (.row true ie.size (.ints (List.replicate n.toNat 0))))] []
            | _ => False
          | false => match zerosS ie.kinds ie.zero with
            | some z => K (one (.own fid)) [(fid, some (.row true ie.size (.view (List.replicate n.toNat z))))] []
            | none => False
        | false => False
    | _, _, _ => False
def appendA (C : Ctx) (fid : Nat) (T : TypeId) (x y : DX) (H : HF) (K : OpK) : Prop :=
  match C.ti T with
  | none => False
  | some i => match i.cls, y with
    | .slice e, (false, [yc]) => match C.ti e with
      | none => False
      | some ie => match Nat.ble 1 ie.size && Nat.ble ie.bytes 4096 && Nat.beq ie.zero.length ie.size with
        | false => False
        | true => match stat1 H (C.isInts e) yc with
          | none => False
          | some (cy, _, ry) => match x with
            | (false, [.nil]) => match SC.cat (nilOf (C.isInts e)) cy with
              | some c' => c'.uni ie.size ∧ c'.len ≤ LIM ∧ K (one (.own fid)) [(fid, some (.row true ie.size c'))] ry
              | none => False
            | (false, [.own id]) => match H id with
              | some (.row m z c) => match Nat.beq z ie.size, SC.cat c cy with
                | true, some c' => cy.uni z ∧ c'.len ≤ LIM ∧ K (one (.own fid)) [(fid, some (.row m z c')), (id, none)] (id :: ry)
                | _, _ => False
              | _ => False
            | _ => False
    | _, _ => False
def zeroRow (C : Ctx) (e : TypeId) (ie : TI) (n : Nat) : Option SC :=
  match C.isInts e with
  | true => match ie.zero with
    | [.lit (.int .i64 0)] => some (.ints (List.replicate n 0))
    | _ => none
  | false => match zerosS ie.kinds ie.zero with
    | some z => some (.view (List.replicate n z))
    | none => none
def appendZA (C : Ctx) (fid : Nat) (T : TypeId) (x y : DX) (H : HF) (K : OpK) : Prop :=
  match C.ti T with
  | none => False
  | some i => match i.cls, y with
    | .slice e, (false, [.st (.lit (.int _ n))]) => match C.ti e with
      | none => False
      | some ie => match Nat.ble 1 ie.size && Nat.ble ie.bytes 4096 && Nat.beq ie.zero.length ie.size with
        | false => False
        | true => (0 ≤ n ∧ n ≤ LIM) ∧ match zeroRow C e ie n.toNat with
          | none => False
          | some cy => match x with
            | (false, [.own id]) => match H id with
              | some (.row m z c) => match Nat.beq z ie.size, SC.cat c cy with
                | true, some c' => c'.len ≤ LIM ∧ K (one (.own fid)) [(fid, some (.row m z c')), (id, none)] [id]
                | _, _ => False
              | _ => False
            | _ => False
    | _, _ => False
def minmax (isMax : Bool) (k : IntKind) (a : Int) : List DX → (Value → Prop) → Prop
  | [], K => K (.int k a)
  | (false, [.st (.lit (.int k' b))]) :: r, K => match decide (k = k') with
    | true => minmax isMax k (match isMax with | true => if b > a then b else a | false => if b < a then b else a) r K
    | false => False
  | _, _ => False
def builtinA (C : Ctx) (fid : Nat) (b : Builtin) (ats : List TypeId) (args : List (Option DV)) (H : HF) (K : OpK) : Prop :=
  match b, ats, args with
  | .len, t :: _, [some (.val x)] => match C.ti t with
    | none => False
    | some i => match i.cls, x with
      | .slice _, (false, [.st c]) => match c.isView with
        | true => K (lit (.int .i64 (c.len : Nat))) [] []
        | false => False
      | .slice _, (false, [.nil]) => K (lit (.int .i64 0)) [] []
      | .slice _, (false, [.own id]) => match H id with
        | some (.row _ _ c) => K (lit (.int .i64 (c.len : Nat))) [] [id]
        | some (.rowD _ l) => K (lit (.int .i64 (l.length : Nat))) [] [id]
        | _ => False
      | .str, (false, [.st (.lit (.string s))]) => K (lit (.int .i64 (s.size : Nat))) [] []
      | .array n _, _ => K (lit (.int .i64 (n : Nat))) [] []
      | _, _ => False
  | .append, [t, t'], [some (.val x), some (.val y)] => match C.ti t' with
    | some i' => match i'.cls with
      | .slice _ => appendA C fid t x y H K
      | .int _ => appendZA C fid t x y H K
      | _ => False
    | none => False
  | .max, _, some (.val (false, [.st (.lit (.int k a))])) :: r => match r.mapM fun d => match d with | some (.val x) => some x | _ => none with
    | some xs => minmax true k a xs fun v => K (lit v) [] []
    | none => False
  | .min, _, some (.val (false, [.st (.lit (.int k a))])) :: r => match r.mapM fun d => match d with | some (.val x) => some x | _ => none with
    | some xs => minmax false k a xs fun v => K (lit v) [] []
    | none => False
  | _, _, _ => False
def callA (C : Ctx) (f : FuncId) (args : List SV) (K : Res → Prop) : Prop := ∃ r, Sat C.P C.gl f args r ∧ K r
def vals : List (Option DV) → Option (List DX)
  | [] => some []
  | some (.val x) :: r => match vals r with
    | some l => some (x :: l)
    | none => none
  | _ => none
def fillC (fid : Nat) : Option SC → DC
  | some c => .st c
  | none => .own fid
def fillO (fid : Nat) (x : Bool × List (Option SC)) : DX := (x.1, x.2.map (fillC fid))
def lits : List SC → Bool
  | [] => true
  | .lit _ :: cs => lits cs
  | _ => false
def litsL : List SV → Bool
  | [] => true
  | x :: l => match lits x.2 with
    | true => litsL l
    | false => false
def unless' (b : Bool) (u : Hp) : Hp := match b with
  | true => []
  | false => u
def resK (fid : Nat) (u : Hp) (rs : List Nat) (K : OpK) : Res → Prop
  | .one x => K (.val (dyn x)) (unless' (lits x.2) u) rs
  | .tup l => K (.tup (l.map dyn)) (unless' (litsL l) u) rs
  | .own z c => K (one (.own fid)) ((fid, some (.row true z c)) :: u) rs
  | .mix true l z c => K (.tup (l.map (fillO fid))) ((fid, some (.row true z c)) :: u) rs
  | .mix false [x] z c => K (.val (fillO fid x)) ((fid, some (.row true z c)) :: u) rs
  | .mix false _ _ _ => False
  | .upd z c => match u, rs with
    | [(id, some (.row false z' _))], [id'] => match Nat.beq id id' && Nat.beq z z' with
      | true => K (.tup []) [(id, some (.row true z c))] [id]
      | false => False
    | _, _ => False
def natIn (n : Nat) : List Nat → Bool
  | [] => false
  | m :: l => match Nat.beq n m with
    | true => true
    | false => natIn n l
def RepN (mv mr : Mem) (v : Value) : DC → Prop
  | .st c => Rep mv mr v c
  | .nil => v = .slice none 0 0
  | _ => False
def SatN (P : Program) (gl : Glob) (f : FuncId) (args : List DX) (r : Res) : Prop :=
  fnOk P f = true ∧ ∀ (mv : Mem) (w : World) (vs : Array Value), mv.le (rd w) → GlobOK gl (rd w) → vs.size = args.length → (∀ k x, args[k]? = some x → ∃ d, x = (false, [d]) ∧ RepN mv (rd w) (vs.getD k undef) d) →
    Calls P f vs w fun e w' => ∃ v, e = .returned v ∧ Go.RowKit.Below w.heap.size w w' ∧ RepRes mv w.heap.size w' v r
def okN : List DX → Bool
  | [] => true
  | (false, [.st _]) :: xs => okN xs
  | (false, [.nil]) :: xs => okN xs
  | _ => false
def callNA (C : Ctx) (fid : Nat) (f : FuncId) (first : List SV) (caps : List (List SC)) (xs : List DX) (K : OpK) : Prop :=
  match first, caps, okN xs with
  | [], [], true => ∃ r, SatN C.P C.gl f xs r ∧ resK fid [] [] K r
  | _, _, _ => False
def callValA (C : Ctx) (fid : Nat) (fv : Option DV) (args : List (Option DV)) (ats : List TypeId) (H : HF) (K : OpK) : Prop :=
  match fv, vals args with
  | some (.val (false, [.st (.fn f first caps)])), some xs => match statA C H ats xs with
    | some (l, u, rs) => callA C f (first ++ l ++ caps.map fun cs => (false, [.ref cs])) (resK fid u rs K)
    | none => False
  | _, _ => False
def nxOp (C : Ctx) : Operand → Bool
  | .func f => natIn f C.nx
  | .const (.func (.func f) _ _) => natIn f C.nx
  | _ => false
def callOpA (C : Ctx) (fid : Nat) (nx : Bool) (fv : Option DV) (args : List (Option DV)) (ats : List TypeId) (H : HF) (K : OpK) : Prop :=
  match nx with
  | true => match fv, vals args with
    | some (.val (false, [.st (.fn f first caps)])), some xs => callNA C fid f first caps xs K
    | _, _ => False
  | false => callValA C fid fv args ats H K
def bytesOf : List (List SC) → Option (List UInt8)
  | [] => some []
  | [.lit (.int .u8 n)] :: r => match bytesOf r with
    | some l => some (UInt8.ofNat n.toNat :: l)
    | none => none
  | _ => none
def isByte (C : Ctx) (e : TypeId) : Bool := match C.ti e with
  | some ie => match ie.cls with
    | .int .u8 => Nat.beq ie.size 1
    | _ => false
  | none => false
def convA (C : Ctx) (src dst : TypeId) (x : DX) (H : HF) (K : OpK) : Prop :=
  match C.ti src, C.ti dst with
  | some i, some j => match i.cls with
    | .int _ => match j.cls, x with
      | .int k, (false, [.st (.lit (.int _ n))]) => K (lit (.int k (k.wrap n))) [] []
      | _, _ => False
    | .str => match j.cls, x with
      | .str, (false, [.st (.lit (.string s))]) => K (lit (.string s)) [] []
      | _, _ => False
    | .slice e => match j.cls, x with
      | .str, (false, [d]) => match isByte C e, stat1 H false d with
        | true, some (.view es, _, r) => match bytesOf es with
          | some l => K (lit (.string ⟨l.toArray⟩)) [] r
          | none => False
        | _, _ => False
      | _, _ => False
    | _ => False
  | _, _ => False
def opA (C : Ctx) (fid : Nat) (o : Oper) (ev : Operand → Option DV) (H : HF) (K : OpK) : Prop :=
  match o.op with
  | .move x => match ev x with
    | some v => K v [] []
    | none => False
  | .assign x => match ev x with
    | some v => K v [] []
    | none => False
  | .pick c a b => match ev c with
    | some (.val (false, [.st (.lit (.bool t))])) => match t with
      | true => match ev a with
        | some v => K v [] []
        | none => False
      | false => match ev b with
        | some v => K v [] []
        | none => False
    | _ => False
  | .alloc T => match C.ti T with
    | some i => match zeros i.zero with
      | some cs => K (one (.ptr fid 0)) [(fid, some (.box T cs))] []
      | none => False
    | none => False
  | .box T x => match ev x with
    | some (.val x) => K (one (.ptr fid 0)) [(fid, some (.box T x.2))] []
    | _ => False
  | .build T parts => match C.ti T with
    | some i => match zeros i.zero with
      | some zs => match i.cls with
        | .struct fs => match fillD (fun n => match fs[n]? with | some (o, ft) => (match C.ti ft with | some fi => some (o, fi.size) | none => none) | none => none) zs (parts.toList.map fun p => (p.1, ev p.2)) with
          | some cs => K (.val (true, cs)) [] []
          | none => False
        | .array _ e => match C.ti e with
          | some ie => match fillD (fun n => some (n * ie.size, ie.size)) zs (parts.toList.map fun p => (p.1, ev p.2)) with
            | some cs => K (.val (true, cs)) [] []
            | none => False
          | none => False
        | _ => False
      | none => False
    | none => False
  | .buildSlice T len parts => match C.ti T with
    | some i => match i.cls with
      | .slice e => match C.ti e with
        | some ie => match Nat.ble 1 ie.size && Nat.ble (len * ie.size) 16777216 && Nat.beq parts.size len with
          | true => match litElems H ie.kinds ie.size 0 (parts.toList.map fun p => (p.1, ev p.2)) with
            | some (es, u, r) => match mkRow (C.isInts e) es with
              | some c => K (one (.own fid)) ((fid, some (.row true ie.size c)) :: u) r
              | none => False
            | none => False
          | false => False
        | none => False
      | _ => False
    | none => False
  | .load T a => match ev a with
    | some (.val x) => loadA C T x H K
    | _ => False
  | .store T a v => match ev a, ev v with
    | some (.val x), some (.val y) => storeA C T x y H K
    | _, _ => False
  | .fieldAddr T a f => match ev a with
    | some (.val x) => fieldAddrA C T x f K
    | _ => False
  | .indexAddr T a ix => match ev a, ev ix with
    | some (.val x), some (.val y) => indexAddrA C T x y H K
    | _, _ => False
  | .index T a ix => match ev a, ev ix with
    | some (.val x), some (.val y) => indexA C T x y K
    | _, _ => False
  | .field T a f => match ev a with
    | some (.val x) => fieldA C T x f K
    | _ => False
  | .slice T x lo hi mx => match ev x, mx with
    | some (.val x), none => sliceA C T x (lo.map ev) (hi.map ev) H K
    | _, _ => False
  | .binOp op T a b _ => match ev a, ev b with
    | some (.val x), some (.val y) => binA C (isConstOp a || isConstOp b) op T x y fun v => K v [] []
    | _, _ => False
  | .unOp op _ a => match ev a with
    | some (.val x) => unA op x fun v => K v [] []
    | _ => False
  | .convert s d a => match ev a with
    | some (.val x) => convA C s d x H K
    | _ => False
  | .extract t ix => match ev t with
    | some (.tup l) => match l[ix]? with
      | some x => K (.val x) [] []
      | none => False
    | _ => False
  | .makeFunc (.func f) first caps => makeFuncA C f (first.toList.map ev) (caps.toList.map ev) H K
  | .makeSlice T l c => match ev l, ev c with
    | some (.val x), some (.val y) => makeSliceA C fid T x y K
    | _, _ => False
  | .call c => match c.callee with
    | .value f => callOpA C fid (nxOp C f) (ev f) (c.args.toList.map ev) c.argTypes.toList H K
    | .builtin b => builtinA C fid b c.argTypes.toList (c.args.toList.map ev) H K
    | _ => False
  | _ => False
end Go.Fw
namespace Go.Fw
open Go.RowKit (Below)
open Classical
def updH (H : HF) (f : Nat) (b : Option Blk) : HF := fun i => if i = f then b else H i
def Hp.on : Hp → HF → HF
  | [], H => H
  | (j, b) :: u, H => updH (Hp.on u H) j b
def Blk.stab : Blk → Nat → Prop
  | .box _ _, _ => False
  | .fbox _, _ => True
  | .row m z c, o => m = false ∧ o < c.len * z
  | .rowD _ _, _ => False
  | .map _, _ => False
structure Fix where
  w0 : World
  mv0 : Mem
  own : Nat → Prop
  fixed : List (Nat × Value) := []
  db : Nat := 0
  mr0 : Mem := rd w0
abbrev Fix.base (F : Fix) : Nat := F.w0.heap.size
def Fix.mine (F : Fix) (b : Nat) : Prop := F.base ≤ b ∨ F.own b
theorem Fix.mine_new {F : Fix} {b : Nat} (h : F.base ≤ b) : F.mine b := .inl h
structure Keep (m : Nat → Prop) (w w' : World) : Prop where
  os : w'.os = w.os
  tape : w'.tape = w.tape
  output : w'.output = w.output
  size : w.heap.size ≤ w'.heap.size
  block : ∀ k, k < w.heap.size → ¬ m k → w'.heap[k]? = w.heap[k]?
theorem Keep.refl (m : Nat → Prop) (w : World) : Keep m w w := ⟨rfl, rfl, rfl, Nat.le_refl _, fun _ _ _ => rfl⟩
theorem Keep.trans {m : Nat → Prop} {a b c : World} (h : Keep m a b) (k : Keep m b c) : Keep m a c :=
  ⟨k.os.trans h.os, k.tape.trans h.tape, k.output.trans h.output, Nat.le_trans h.size k.size, fun i hi hm => (k.block i (Nat.lt_of_lt_of_le hi h.size) hm).trans (h.block i hi hm)⟩
theorem Keep.of_below {m : Nat → Prop} {w w' : World} (h : Below w.heap.size w w') : Keep m w w' := ⟨h.os, h.tape, h.output, h.size, fun k hk _ => h.block k hk⟩
theorem Keep.mono {m m' : Nat → Prop} {w w' : World} (h : Keep m w w') (hm : ∀ b, b < w.heap.size → m b → m' b) : Keep m' w w' := ⟨h.os, h.tape, h.output, h.size, fun k hk hn => h.block k hk fun e => hn (hm k hk e)⟩
theorem Keep.below {m : Nat → Prop} {w w' : World} (h : Keep m w w') (hm : ∀ b, b < w.heap.size → ¬ m b) : Below w.heap.size w w' := ⟨h.os, h.tape, h.output, h.size, fun k hk => h.block k hk (hm k hk)⟩
def stable (β : Nat → Option Nat) (H : HF) (b o : Nat) : Prop := ∀ id blk, H id = some blk → β id = some b → blk.stab o
noncomputable def MV (F : Fix) (β : Nat → Option Nat) (H : HF) (w : World) : Mem := fun b o => if F.mine b then (if stable β H b o then rd w b o else none) else F.mv0 b o
noncomputable def MR (F : Fix) (β : Nat → Option Nat) (H : HF) (w : World) : Mem := fun b o => if F.mine b then MV F β H w b o else F.mr0 b o
section
variable (F : Fix) (β : Nat → Option Nat) (N : Nat → Prop) (H : HF) (w : World)
def OwnV (v : Value) (id z n : Nat) : Prop :=
  (β id = none ∧ n = 0 ∧ v = .slice none 0 0) ∨
    ∃ b cap arr T, β id = some b ∧ v = .slice (some ⟨b, 0, none⟩) n cap ∧ w.heap[b]? = some (.cells arr T) ∧ arr.size = cap * z
def RepD (v : Value) : DC → Prop
  | .st c => Rep (MV F β H w) (MR F β H w) v c
  | .nil => v = .slice none 0 0
  | .ptr id off => N id ∧ ∃ b, β id = some b ∧ v = .pointer (some ⟨b, off, none⟩)
  | .own id => N id ∧ v.oneCell' = true ∧ ∀ blk z n, H id = some blk → blk.sz = some (z, n) → OwnV β w v id z n
  | .rptr id z i off => N id ∧ ∃ b, β id = some b ∧ v = .pointer (some ⟨b, i * z + off, none⟩)
  | .mp id => N id ∧ ∃ b, β id = some b ∧ v = .map (some b)
  | .clo g id => N id ∧ ∃ b, β id = some b ∧ v = .func (.func g) #[] #[.pointer (some ⟨b, 0, none⟩)]
def RepDX (v : Value) (x : DX) : Prop :=
  if x.1 then ∃ arr, v = .agg arr ∧ arr.size = x.2.length ∧ ∀ k c, x.2[k]? = some c → RepD F β N H w (arr.getD k undef) c
  else ∃ c, x.2 = [c] ∧ RepD F β N H w v c
def RepDV (v : Value) : DV → Prop
  | .val x => RepDX F β N H w v x
  | .tup l => ∃ arr, v = .tuple arr ∧ arr.size = l.length ∧ ∀ k x, l[k]? = some x → RepDX F β N H w (arr.getD k undef) x
def BlkRel (id : Nat) : Blk → Prop
  | .box _ cs => ∃ b arr T, β id = some b ∧ F.mine b ∧ w.heap[b]? = some (.cells arr T) ∧ arr.size = cs.length ∧ ∀ k x, cs[k]? = some x → RepD F β N H w (arr.getD k undef) x
  | .fbox cs => ∃ b arr T, β id = some b ∧ F.mine b ∧ w.heap[b]? = some (.cells arr T) ∧ arr.size = cs.length ∧ ∀ k x, cs[k]? = some x → Rep (MV F β H w) (MR F β H w) (arr.getD k undef) x
  | .row _ z c => (0 < z ∧ c.isView = true ∧ ∀ i e, c.elem i = some e → e.length = z) ∧
      ((β id = none ∧ c.len = 0) ∨ ∃ b cap, β id = some b ∧ F.mine b ∧ RowAt w (MV F β H w) b z c cap)
  | .rowD z l => (0 < z ∧ ∀ (i : Nat) (e : List DC), l[i]? = some e → e.length = z) ∧
      ((β id = none ∧ l.length = 0) ∨ ∃ b cap arr T, β id = some b ∧ F.mine b ∧ w.heap[b]? = some (.cells arr T) ∧ arr.size = cap * z ∧ l.length ≤ cap ∧
        ∀ (i : Nat) (e : List DC) (k : Nat) (x : DC), l[i]? = some e → e[k]? = some x → RepD F β N H w (arr.getD (i * z + k) undef) x)
  | .map es => ∃ b arr clock, β id = some b ∧ F.mine b ∧ w.heap[b]? = some (.map arr clock) ∧ arr.size = es.length ∧
      ∀ (i : Nat) (k : ByteArray) (x : SV) (e : MapEntry), es[i]? = some (k, x) → arr[i]? = some e → e.key = .string k ∧ RepB (MV F β H w) (MR F β H w) e.val x
structure HeapRel : Prop where
  rel : ∀ id blk, H id = some blk → N id ∧ BlkRel F β N H w id blk
  inj : ∀ i j b x y, H i = some x → H j = some y → β i = some b → β j = some b → i = j
  below : Keep F.mine F.w0 w
  mem0 : ∀ b o v, F.mv0 b o = some v → rd w b o = some v ∧ (F.mine b → stable β H b o)
def EnvRel (E : EF) (a : Act) : Prop := ∀ s dv, E s = some dv → RepDV F β N H w (a.tmps.getD s undef) dv
end
def Blk.like : Blk → Blk → Prop
  | .box _ _, .box _ _ => True
  | .box _ _, .fbox _ => True
  | .fbox _, .fbox _ => True
  | .row _ z c, .row _ z' c' => z = z' ∧ c.len = c'.len
  | .rowD z l, .rowD z' l' => z = z' ∧ l.length = l'.length
  | .map _, .map _ => True
  | _, _ => False
theorem Blk.like_sz {a b : Blk} (h : a.like b) : b.sz = a.sz := by
  cases a <;> cases b <;> simp [Blk.like, Blk.sz] at h ⊢ <;> (obtain ⟨h1, h2⟩ := h; exact ⟨h1.symm, h2.symm⟩)
theorem Blk.like_refl (b : Blk) : b.like b := by cases b <;> simp [Blk.like]
structure Tr (F : Fix) (β : Nat → Option Nat) (N : Nat → Prop) (H : HF) (w : World) (β' : Nat → Option Nat) (N' : Nat → Prop) (H' : HF) (w' : World) : Prop where
  below : Keep F.mine w w'
  mem : ∀ b o v, F.mine b → stable β H b o → rd w b o = some v → stable β' H' b o ∧ rd w' b o = some v
  used : ∀ id, N id → N' id
  beta : ∀ id, N id → β' id = β id
  keep : ∀ id blk', N id → H' id = some blk' → ∃ blk, H id = some blk ∧ blk.like blk'
  size : ∀ id blk' zn b arr T, N id → H' id = some blk' → blk'.sz = some zn → β id = some b → F.mine b → w.heap[b]? = some (.cells arr T) → ∃ arr', w'.heap[b]? = some (.cells arr' T) ∧ arr'.size = arr.size
  others : ∀ (k : Nat) (x : Option (List Deferred)), w.heap[k]? = some (.deferred x) → w'.heap[k]? = some (.deferred x)
section
variable {F : Fix} {β β' : Nat → Option Nat} {N N' : Nat → Prop} {H H' : HF} {w w' : World}
theorem Tr.refl : Tr F β N H w β N H w :=
  ⟨Keep.refl _ _, fun _ _ _ _ h e => ⟨h, e⟩, fun _ h => h, fun _ _ => rfl, fun _ b _ e => ⟨b, e, b.like_refl⟩, fun _ _ _ _ arr _ _ _ _ _ _ h => ⟨arr, h, rfl⟩, fun _ _ h => h⟩
theorem Below.rd_lt {B : Nat} (h : Below B w w') {b o : Nat} (hb : b < B) : rd w' b o = rd w b o := h.cell hb
theorem Keep.rd {m : Nat → Prop} (h : Keep m w w') {b o : Nat} {v : Value} (hb : ¬ m b) (e : rd w b o = some v) : rd w' b o = some v := by
  have hlt := World.block_lt_of_cell? _ _ e
  exact (World.cell?_of_block (w := w) (a := ⟨b, o, none⟩) (h.block b hlt hb)).trans e
theorem Tr.mv (t : Tr F β N H w β' N' H' w') : (MV F β H w).le (MV F β' H' w') := by
  intro b o v h
  unfold MV at *
  by_cases hb : F.mine b
  · simp only [hb, if_true] at h ⊢
    by_cases hs : stable β H b o
    · simp only [hs, if_true] at h
      obtain ⟨h1, h2⟩ := t.mem b o v hb hs h
      simp [h1, h2]
    · simp [hs] at h
  · simpa [hb] using h
theorem Tr.mr (t : Tr F β N H w β' N' H' w') : (MR F β H w).le (MR F β' H' w') := by
  intro b o v h
  unfold MR at *
  by_cases hb : F.mine b
  · simp only [hb, if_true] at h ⊢
    exact t.mv b o v h
  · simp only [hb, if_false] at h ⊢
    exact h
theorem Tr.mem0 (t : Tr F β N H w β' N' H' w') (h : ∀ b o v, F.mv0 b o = some v → rd w b o = some v ∧ (F.mine b → stable β H b o)) : ∀ b o v, F.mv0 b o = some v → rd w' b o = some v ∧ (F.mine b → stable β' H' b o) := by
  intro b o v e
  obtain ⟨h1, h2⟩ := h b o v e
  by_cases hb : F.mine b
  · obtain ⟨h3, h4⟩ := t.mem b o v hb (h2 hb) h1
    exact ⟨h4, fun _ => h3⟩
  · exact ⟨t.below.rd hb h1, fun h => absurd h hb⟩
theorem Tr.repD (t : Tr F β N H w β' N' H' w') (hR : HeapRel F β N H w) {v : Value} {d : DC} (h : RepD F β N H w v d) : RepD F β' N' H' w' v d := by
  cases d with
  | st c => exact Rep.mono t.mv t.mr h
  | nil => exact h
  | ptr id off =>
    obtain ⟨hn, b, h1, h2⟩ := h
    exact ⟨t.used _ hn, b, by rw [t.beta _ hn]; exact h1, h2⟩
  | own id =>
    obtain ⟨hn, h1c, h⟩ := h
    refine ⟨t.used _ hn, h1c, fun blk' z n hb hz => ?_⟩
    obtain ⟨blk, e, hl⟩ := t.keep id _ hn hb
    have eb := t.beta id hn
    have hz0 := hz
    rw [Blk.like_sz hl] at hz
    have h := h _ _ _ e hz
    unfold OwnV at *
    rw [eb]
    rcases h with ⟨h1, h2, h3⟩ | ⟨b, cap, arr, T, h1, h2, h3, h4⟩
    · exact .inl ⟨h1, h2, h3⟩
    · have hbase : F.mine b := by
        obtain ⟨_, hb'⟩ := hR.rel id _ e
        cases blk with
        | row m z c =>
          obtain ⟨_, hb' | ⟨b', cap', q1, q2, q3⟩⟩ := hb'
          · simp [hb'.1] at h1
          · rw [h1] at q1; cases q1; exact q2
        | rowD z l =>
          obtain ⟨_, hb' | ⟨b', cap', arr', T', q1, q2, q3⟩⟩ := hb'
          · simp [hb'.1] at h1
          · rw [h1] at q1; cases q1; exact q2
        | box _ _ => simp [Blk.sz] at hz
        | fbox _ => simp [Blk.sz] at hz
        | map _ => simp [Blk.sz] at hz
      obtain ⟨arr', e', es⟩ := t.size id _ _ b arr T hn hb hz0 h1 hbase h3
      exact .inr ⟨b, cap, arr', T, h1, h2, e', by omega⟩
  | rptr id z i off =>
    obtain ⟨hn, b, h1, h2⟩ := h
    exact ⟨t.used _ hn, b, by rw [t.beta _ hn]; exact h1, h2⟩
  | clo g id =>
    obtain ⟨hn, b, h1, h2⟩ := h
    exact ⟨t.used _ hn, b, by rw [t.beta _ hn]; exact h1, h2⟩
  | mp id =>
    obtain ⟨hn, b, h1, h2⟩ := h
    exact ⟨t.used _ hn, b, by rw [t.beta _ hn]; exact h1, h2⟩
theorem Tr.repDX (t : Tr F β N H w β' N' H' w') (hR : HeapRel F β N H w) {v : Value} {d : DX} (h : RepDX F β N H w v d) : RepDX F β' N' H' w' v d := by
  unfold RepDX at *
  split
  · rename_i hx
    rw [if_pos hx] at h
    obtain ⟨arr, h1, h2, h3⟩ := h
    exact ⟨arr, h1, h2, fun k c hc => t.repD hR (h3 k c hc)⟩
  · rename_i hx
    rw [if_neg hx] at h
    obtain ⟨c, h1, h2⟩ := h
    exact ⟨c, h1, t.repD hR h2⟩
theorem Tr.repDV (t : Tr F β N H w β' N' H' w') (hR : HeapRel F β N H w) {v : Value} {d : DV} (h : RepDV F β N H w v d) : RepDV F β' N' H' w' v d := by
  cases d with
  | val x => exact t.repDX hR h
  | tup l =>
    obtain ⟨arr, h1, h2, h3⟩ := h
    exact ⟨arr, h1, h2, fun k c hc => t.repDX hR (h3 k c hc)⟩
theorem Tr.env (t : Tr F β N H w β' N' H' w') (hR : HeapRel F β N H w) {E : EF} {a : Act} (h : EnvRel F β N H w E a) : EnvRel F β' N' H' w' E a :=
  fun s dv e => t.repDV hR (h s dv e)
theorem HeapRel.step (hR : HeapRel F β N H w) (t : Tr F β N H w β' N' H' w') (T : Nat → Prop)
    (hu : ∀ id blk, ¬ T id → H' id = some blk → H id = some blk ∧ N id ∧ ∀ b, β id = some b → w'.heap[b]? = w.heap[b]?)
    (ht : ∀ id blk, T id → H' id = some blk → N' id ∧ BlkRel F β' N' H' w' id blk)
    (hi : ∀ i j b x y, H' i = some x → H' j = some y → β' i = some b → β' j = some b → i = j) : HeapRel F β' N' H' w' := by
  refine ⟨fun id blk e => ?_, hi, hR.below.trans t.below, t.mem0 hR.mem0⟩
  by_cases hT : T id
  · exact ht id blk hT e
  · obtain ⟨e0, hn0, hw⟩ := hu id blk hT e
    have eb := t.beta id hn0
    obtain ⟨hn, hb⟩ := hR.rel id blk e0
    refine ⟨t.used _ hn, ?_⟩
    cases blk with
    | box ty cs =>
      obtain ⟨b, arr, T', h1, h2, h3, h4, h5⟩ := hb
      exact ⟨b, arr, T', by rw [eb]; exact h1, h2, by rw [hw b h1]; exact h3, h4, fun k x hx => t.repD hR (h5 k x hx)⟩
    | fbox cs =>
      obtain ⟨b, arr, T', h1, h2, h3, h4, h5⟩ := hb
      exact ⟨b, arr, T', by rw [eb]; exact h1, h2, by rw [hw b h1]; exact h3, h4, fun k x hx => (h5 k x hx).mono t.mv t.mr⟩
    | row m z c =>
      obtain ⟨h0, h1 | ⟨b, cap, h1, h2, arr, T', q1, q2, q3, q4, q5, q6, q7⟩⟩ := hb
      · exact ⟨h0, .inl ⟨by rw [eb]; exact h1.1, h1.2⟩⟩
      · exact ⟨h0, .inr ⟨b, cap, by rw [eb]; exact h1, h2, arr, T', by rw [hw b h1]; exact q1, q2, q3, q4, q5, q6, fun i e j x he hx => (q7 i e j x he hx).mono t.mv (Mem.le_refl _)⟩⟩
    | rowD z l =>
      obtain ⟨h0, h1 | ⟨b, cap, arr, T', h1, h2, q1, q2, q3, q4⟩⟩ := hb
      · exact ⟨h0, .inl ⟨by rw [eb]; exact h1.1, h1.2⟩⟩
      · exact ⟨h0, .inr ⟨b, cap, arr, T', by rw [eb]; exact h1, h2, by rw [hw b h1]; exact q1, q2, q3, fun i e j x he hx => t.repD hR (q4 i e j x he hx)⟩⟩
    | map es =>
      obtain ⟨b, arr, ck, h1, h2, h3, h4, h5⟩ := hb
      exact ⟨b, arr, ck, by rw [eb]; exact h1, h2, by rw [hw b h1]; exact h3, h4, fun i k x e hi he => let ⟨a1, a2⟩ := h5 i k x e hi he; ⟨a1, a2.mono t.mv t.mr⟩⟩
theorem rd_grow (h : Below w.heap.size w w') {b o : Nat} {v : Value} (e : rd w b o = some v) : rd w' b o = some v := by
  rw [Below.rd_lt h (World.block_lt_of_cell? _ _ e)]; exact e
theorem blk_lt {b : Nat} {o : Obj} (e : w.heap[b]? = some o) : b < w.heap.size := (Array.getElem?_eq_some_iff.1 e).1
theorem Tr.grow (_hR : HeapRel F β N H w) (h : Below w.heap.size w w') : Tr F β N H w β N H w' where
  below := .of_below h
  mem := fun _ _ _ _ hs e => ⟨hs, rd_grow h e⟩
  used := fun _ h => h
  beta := fun _ _ => rfl
  keep := fun _ b _ e => ⟨b, e, b.like_refl⟩
  size := fun _ _ _ b arr T _ _ _ _ _ e => ⟨arr, by rw [h.block b (blk_lt e)]; exact e, rfl⟩
  others := fun k o e => by rw [h.block k (blk_lt e)]; exact e
theorem HeapRel.live_lt (hR : HeapRel F β N H w) {id b : Nat} {blk : Blk} (e : H id = some blk) (hb : β id = some b) : b < w.heap.size ∧ F.mine b := by
  obtain ⟨_, h⟩ := hR.rel id blk e
  cases blk with
  | box ty cs => obtain ⟨b', arr, T', h1, h2, h3, _⟩ := h; rw [hb] at h1; cases h1; exact ⟨blk_lt h3, h2⟩
  | fbox cs => obtain ⟨b', arr, T', h1, h2, h3, _⟩ := h; rw [hb] at h1; cases h1; exact ⟨blk_lt h3, h2⟩
  | row m z c =>
    obtain ⟨_, h1 | ⟨b', cap, h1, h2, arr, T', q1, _⟩⟩ := h
    · rw [h1.1] at hb; cases hb
    · rw [hb] at h1; cases h1; exact ⟨blk_lt q1, h2⟩
  | rowD z l =>
    obtain ⟨_, h1 | ⟨b', cap, arr, T', h1, h2, q1, _⟩⟩ := h
    · rw [h1.1] at hb; cases hb
    · rw [hb] at h1; cases h1; exact ⟨blk_lt q1, h2⟩
  | map es => obtain ⟨b', arr, T', h1, h2, h3, _⟩ := h; rw [hb] at h1; cases h1; exact ⟨blk_lt h3, h2⟩
theorem HeapRel.grow (hR : HeapRel F β N H w) (h : Below w.heap.size w w') : HeapRel F β N H w' :=
  hR.step (Tr.grow hR h) (fun _ => False) (fun id blk _ e => ⟨e, (hR.rel id blk e).1, fun b hb => h.block b (hR.live_lt e hb).1⟩) (fun _ _ h => h.elim) hR.inj
theorem updH_same (H : HF) (f : Nat) (b : Option Blk) : updH H f b f = b := by simp [updH]
theorem updH_ne (H : HF) (f : Nat) (b : Option Blk) {i : Nat} (h : i ≠ f) : updH H f b i = H i := by simp [updH, h]
theorem Hp.get_cons (j : Nat) (b : Option Blk) (H : Hp) : Hp.get ((j, b) :: H) = updH H.get j b := by
  funext i
  by_cases h : i = j
  · subst h; simp [Hp.get, updH]
  · have : Nat.beq i j = false := by
      cases h' : Nat.beq i j
      · rfl
      · exact absurd (Nat.eq_of_beq_eq_true h') h
    simp [Hp.get, this, h, updH]
theorem Hp.get_append (u H : Hp) : Hp.get (u ++ H) = u.on H.get := by
  induction u with
  | nil => rfl
  | cons p u ih => rw [List.cons_append, Hp.get_cons, ih]; rfl
theorem Hp.on_append (u u' : Hp) (H : HF) : Hp.on (u ++ u') H = u.on (u'.on H) := by
  induction u with
  | nil => rfl
  | cons p u ih => rw [List.cons_append]; show updH _ _ _ = updH _ _ _; rw [ih]
def tag (id : Nat) : Nat := match Nat.beq (id % 2) 0 with
  | true => id / 2
  | false => id / 8589934592
theorem tag_even (n : Nat) : tag (2 * n) = n := by
  have h : 2 * n % 2 = 0 := by omega
  unfold tag
  rw [h]
  show 2 * n / 2 = n
  omega
theorem tag_le (id : Nat) : tag id ≤ id := by
  unfold tag
  split
  · exact Nat.div_le_self _ _
  · exact Nat.div_le_self _ _
def setN (N : Nat → Prop) (f : Nat) : Nat → Prop := fun id => N id ∨ tag id = tag f
def setB (β : Nat → Option Nat) (f : Nat) (b : Option Nat) : Nat → Option Nat := fun id => if id = f then b else β id
theorem setB_same (β : Nat → Option Nat) (f : Nat) (b : Option Nat) : setB β f b f = b := by simp [setB]
theorem setB_ne (β : Nat → Option Nat) (f : Nat) (b : Option Nat) {i : Nat} (h : i ≠ f) : setB β f b i = β i := by simp [setB, h]
theorem Tr.new (_hR : HeapRel F β N H w) (h : Below w.heap.size w w') {f : Nat} (hf : ¬ N f) (b : Option Nat) (hb : ∀ x, b = some x → w.heap.size ≤ x) (blk : Blk) :
    Tr F β N H w (setB β f b) (setN N f) (updH H f (some blk)) w' where
  below := .of_below h
  mem := fun b' o v _ hs e => by
    refine ⟨fun id blk' e' hb' => ?_, rd_grow h e⟩
    by_cases hid : id = f
    · subst hid
      rw [setB_same] at hb'
      have := hb _ hb'
      have := World.block_lt_of_cell? _ _ e
      simp at this; omega
    · rw [updH_ne _ _ _ hid] at e'
      rw [setB_ne _ _ _ hid] at hb'
      exact hs id blk' e' hb'
  used := fun _ h => .inl h
  beta := fun id hn => setB_ne _ _ _ fun e => hf (e ▸ hn)
  keep := fun id b' hn e => by
    have hid : id ≠ f := fun e => hf (e ▸ hn)
    rw [updH_ne _ _ _ hid] at e
    exact ⟨b', e, b'.like_refl⟩
  size := fun _ _ _ b arr T _ _ _ _ _ e => ⟨arr, by rw [h.block b (blk_lt e)]; exact e, rfl⟩
  others := fun k o e => by rw [h.block k (blk_lt e)]; exact e
theorem HeapRel.new (hR : HeapRel F β N H w) (h : Below w.heap.size w w') {f : Nat} (hf : ¬ N f) (b : Option Nat) (hb : ∀ x, b = some x → w.heap.size ≤ x) (blk : Blk)
    (hrel : BlkRel F (setB β f b) (setN N f) (updH H f (some blk)) w' f blk) : HeapRel F (setB β f b) (setN N f) (updH H f (some blk)) w' := by
  refine hR.step (Tr.new hR h hf b hb blk) (fun id => id = f) (fun id blk' hid e => ?_) (fun id blk' hid e => ?_) (fun i j x y z hi hj bi bj => ?_)
  · rw [updH_ne _ _ _ hid] at e
    exact ⟨e, (hR.rel id blk' e).1, fun b hb => h.block b (hR.live_lt e hb).1⟩
  · subst hid
    rw [updH_same] at e
    cases e
    exact ⟨.inr rfl, hrel⟩
  · by_cases h1 : i = f
    · by_cases h2 : j = f
      · rw [h1, h2]
      · exfalso
        subst h1
        rw [updH_ne _ _ _ h2] at hj
        rw [setB_same] at bi
        rw [setB_ne _ _ _ h2] at bj
        have := (hR.live_lt hj bj).1
        have := hb _ bi
        omega
    · by_cases h2 : j = f
      · exfalso
        subst h2
        rw [updH_ne _ _ _ h1] at hi
        rw [setB_same] at bj
        rw [setB_ne _ _ _ h1] at bi
        have := (hR.live_lt hi bi).1
        have := hb _ bj
        omega
      · rw [updH_ne _ _ _ h1] at hi
        rw [updH_ne _ _ _ h2] at hj
        rw [setB_ne _ _ _ h1] at bi
        rw [setB_ne _ _ _ h2] at bj
        exact hR.inj i j x y z hi hj bi bj
theorem Tr.trans {β'' : Nat → Option Nat} {N'' : Nat → Prop} {H'' : HF} {w'' : World} (t : Tr F β N H w β' N' H' w') (u : Tr F β' N' H' w' β'' N'' H'' w'') : Tr F β N H w β'' N'' H'' w'' where
  below := t.below.trans u.below
  mem := fun b o v hb hs e => let ⟨h1, h2⟩ := t.mem b o v hb hs e; u.mem b o v hb h1 h2
  used := fun id h => u.used id (t.used id h)
  beta := fun id h => (u.beta id (t.used id h)).trans (t.beta id h)
  keep := fun id blk'' hn e => by
    obtain ⟨blk', e', hl'⟩ := u.keep id blk'' (t.used id hn) e
    obtain ⟨blk, e0, hl⟩ := t.keep id blk' hn e'
    refine ⟨blk, e0, ?_⟩
    cases blk <;> cases blk' <;> cases blk'' <;> simp [Blk.like] at * <;> (try exact ⟨hl.1.trans hl'.1, hl.2.trans hl'.2⟩)
  size := fun id blk'' zn b arr T hn e0 ez eb hb e => by
    obtain ⟨blk', ek, hl⟩ := u.keep id blk'' (t.used id hn) e0
    obtain ⟨arr', e', s'⟩ := t.size id blk' zn b arr T hn ek (by rw [← Blk.like_sz hl]; exact ez) eb hb e
    obtain ⟨arr'', e'', s''⟩ := u.size id blk'' zn b arr' T (t.used id hn) e0 ez ((t.beta id hn).trans eb) hb e'
    exact ⟨arr'', e'', by omega⟩
  others := fun k o e => u.others k o (t.others k o e)
end
end Go.Fw
namespace Go.Fw
open Go.RowKit (Below)
section
variable {C : Ctx} {F : Fix} {β β' : Nat → Option Nat} {N N' : Nat → Prop} {H H' : HF} {w w' : World}
def Soft (H H' : HF) : Prop := ∀ id, H' id = H id ∨ (∃ m z c, H id = some (.row m z c) ∧ H' id = some (.row false z c)) ∨ ∃ t cs l, H id = some (.box t cs) ∧ H' id = some (.fbox l)
theorem Soft.refl (H : HF) : Soft H H := fun _ => .inl rfl
theorem Soft.live (h : Soft H H') {id : Nat} {x : Blk} (e : H' id = some x) : ∃ y, H id = some y ∧ y.like x := by
  rcases h id with h | ⟨m, z, c, h1, h2⟩ | ⟨t, cs, l, h1, h2⟩
  · exact ⟨x, by rw [← h]; exact e, x.like_refl⟩
  · rw [h2] at e; cases e; exact ⟨_, h1, rfl, rfl⟩
  · rw [h2] at e; cases e; exact ⟨_, h1, trivial⟩
theorem Soft.tr (h : Soft H H') : Tr F β N H w β N H' w where
  below := Keep.refl _ _
  mem := fun b o v _ hs e => by
    refine ⟨fun id blk e' hb => ?_, e⟩
    rcases h id with h | ⟨m, z, c, h1, h2⟩ | ⟨t, cs, l, h1, h2⟩
    · exact hs id blk (by rw [← h]; exact e') hb
    · have := hs id _ h1 hb
      rw [h2] at e'; cases e'
      exact ⟨rfl, this.2⟩
    · rw [h2] at e'; cases e'
      trivial
  used := fun _ h => h
  beta := fun _ _ => rfl
  keep := fun id blk' _ e => let ⟨y, e1, hl⟩ := h.live e; ⟨y, e1, hl⟩
  size := fun _ _ _ _ arr _ _ _ _ _ _ h => ⟨arr, h, rfl⟩
  others := fun _ _ h => h
theorem stable_row (hR : HeapRel F β N H w) (h : Soft H H') {id b z : Nat} {c : SC} (e : H' id = some (.row false z c)) (hb : β id = some b) {o : Nat} (ho : o < c.len * z) : stable β H' b o := by
  intro id' blk e' hb'
  obtain ⟨y, ey, _⟩ := h.live e
  obtain ⟨y', ey', _⟩ := h.live e'
  have : id' = id := hR.inj id' id b y' y ey' ey hb' hb
  subst this
  rw [e] at e'; cases e'
  exact ⟨rfl, ho⟩
theorem stable_fbox (hR : HeapRel F β N H w) (h : Soft H H') {id b : Nat} {cs : List SC} (e : H' id = some (.fbox cs)) (hb : β id = some b) (o : Nat) : stable β H' b o := by
  intro id' blk e' hb'
  obtain ⟨y, ey, _⟩ := h.live e
  obtain ⟨y', ey', _⟩ := h.live e'
  have : id' = id := hR.inj id' id b y' y ey' ey hb' hb
  subst this
  rw [e] at e'; cases e'
  trivial
theorem MV_base {b o : Nat} (hb : F.mine b) (hs : stable β H b o) : MV F β H w b o = rd w b o := by
  unfold MV
  rw [if_pos hb, if_pos hs]
theorem rd_cells {arr : Array Value} {T : TypeId} {b o : Nat} (h : w.heap[b]? = some (.cells arr T)) (ho : o < arr.size) : rd w b o = some (arr.getD o undef) := by
  simp [rd, World.cell?, h, Array.getD, ho]
theorem row_view (hR : HeapRel F β N H w) (h : Soft H H') {id z : Nat} {c : SC} {v : Value} (e : H' id = some (.row false z c)) (hv : OwnV β w v id z c.len)
    (hrow : BlkRel F β N H w id (.row false z c)) : Rep (MV F β H' w) (MR F β H' w) v c := by
  obtain ⟨⟨hz, hview, hl⟩, hr⟩ := hrow
  by_cases h0 : c.len = 0
  · rcases hv with ⟨_, _, rfl⟩ | ⟨b, cap, arr, T, h1, rfl, h3, h4⟩
    · exact .empty _ _ hview h0
    · rw [h0]; exact .empty _ _ hview h0
  rcases hv with ⟨_, h0', _⟩ | ⟨b, cap, arr, T, h1, rfl, h3, h4⟩
  · exact absurd h0' h0
  rcases hr with ⟨_, h0'⟩ | ⟨b', cap', q1, q2, arr', T', q3, q4, q5, q6, q7, q8, q9⟩
  · exact absurd h0' h0
  rw [h1] at q1; cases q1
  rw [h3] at q3; cases q3
  have hle : c.len * z ≤ arr.size := by rw [q4]; exact Nat.mul_le_mul_right _ q7
  have hcap : cap = cap' := Nat.eq_of_mul_eq_mul_right hz (by rw [← h4, q4])
  subst hcap
  refine .view b 0 cap z (fun k => arr.getD k undef) hview (by omega) hz q7 hl (fun k hk => ?_) (fun i el j x he hx => ?_)
  · rw [Nat.zero_add, MV_base q2 (stable_row hR h e h1 hk)]
    exact rd_cells h3 (by omega)
  · exact (q9 i el j x he hx).mono (Soft.tr (N := N) h).mv (Mem.le_refl _)
def FreezeE (H : HF) (p : Nat × Option Blk) : Prop := ∃ m z c, H p.1 = some (.row m z c) ∧ p.2 = some (.row false z c)
theorem stat1_freeze {k : Bool} {d : DC} {c : SC} {u : Hp} {r : List Nat} (h : stat1 H k d = some (c, u, r)) : ∀ p ∈ u, FreezeE H p := by
  cases d with
  | st c' => simp [stat1] at h; obtain ⟨_, rfl, _⟩ := h; simp
  | nil => simp [stat1] at h; obtain ⟨_, rfl, _⟩ := h; simp
  | own id =>
    simp only [stat1] at h
    split at h
    · rename_i m z c' e
      simp at h
      obtain ⟨rfl, rfl, rfl⟩ := h
      cases m
      · simp
      · intro p hp; simp at hp; subst hp; exact ⟨_, _, _, e, rfl⟩
    · simp at h; obtain ⟨_, rfl, _⟩ := h; simp
    · cases h
  | ptr id off => simp [stat1] at h
  | rptr id z i off => simp [stat1] at h
  | clo g id => simp [stat1] at h
  | mp id => simp [stat1] at h
theorem stat1_rep (hR : HeapRel F β N H w) (hS : Soft H H') {v : Value} {k : Bool} {d : DC} {c : SC} {u : Hp} {r : List Nat} (hd : RepD F β N H w v d)
    (h : stat1 H k d = some (c, u, r)) (hu : ∀ p ∈ u, ∃ z c, p.2 = some (.row false z c) ∧ H' p.1 = some (.row false z c)) : Rep (MV F β H' w) (MR F β H' w) v c := by
  cases d with
  | st c' =>
    simp [stat1] at h; obtain ⟨rfl, _, _⟩ := h
    exact Rep.mono (Soft.tr (N := N) hS).mv (Soft.tr (N := N) hS).mr hd
  | nil =>
    simp [stat1] at h; obtain ⟨rfl, _, _⟩ := h
    have : v = .slice none 0 0 := hd
    subst this
    cases k
    · exact .empty _ _ rfl rfl
    · exact .empty _ _ rfl rfl
  | own id =>
    simp only [stat1] at h
    split at h
    · rename_i m z c' e
      simp at h
      obtain ⟨rfl, hu', rfl⟩ := h
      obtain ⟨hn, _, hd⟩ := hd
      have hv := hd _ _ _ e rfl
      have hb := (hR.rel id _ e).2
      have e' : H' id = some (.row false z c') := by
        cases m
        · rcases hS id with h | ⟨m, z1, c1, h1, h2⟩ | ⟨t, cs, l, h1, h2⟩
          · rw [h]; exact e
          · rw [e] at h1; cases h1; exact h2
          · rw [e] at h1; cases h1
        · subst hu'
          obtain ⟨z1, c1, h1, h2⟩ := hu (id, some (.row false z c')) (by simp)
          cases h1; exact h2
      refine row_view hR hS e' hv ?_
      exact hb
    · simp at h; obtain ⟨rfl, _, _⟩ := h; exact .any hd.2.1
    · cases h
  | ptr id off => simp [stat1] at h
  | rptr id z i off => simp [stat1] at h
  | clo g id => simp [stat1] at h
  | mp id => simp [stat1] at h
theorem stat1L_freeze : ∀ {ks : List Bool} {ds : List DC} {l : List SC} {u : Hp} {r : List Nat}, stat1L H ks ds = some (l, u, r) → ∀ p ∈ u, FreezeE H p
  | ks, [], l, u, r, h => by simp [stat1L] at h; obtain ⟨_, rfl, _⟩ := h; simp
  | ks, d :: ds, l, u, r, h => by
    simp only [stat1L] at h
    split at h
    · rename_i c u1 r1 h1
      split at h
      · rename_i cs u2 r2 h2
        simp at h
        obtain ⟨_, rfl, _⟩ := h
        intro p hp
        rcases List.mem_append.1 hp with hp | hp
        · exact stat1_freeze h1 p hp
        · exact stat1L_freeze h2 p hp
      · cases h
    · cases h
theorem stat1L_len : ∀ {ks : List Bool} {ds : List DC} {l : List SC} {u : Hp} {r : List Nat}, stat1L H ks ds = some (l, u, r) → l.length = ds.length
  | ks, [], l, u, r, h => by simp [stat1L] at h; obtain ⟨rfl, _, _⟩ := h; rfl
  | ks, d :: ds, l, u, r, h => by
    simp only [stat1L] at h
    split at h
    · split at h
      · rename_i cs u2 r2 h2
        simp at h
        obtain ⟨rfl, _, _⟩ := h
        simp [stat1L_len h2]
      · cases h
    · cases h
theorem stat1L_rep (hR : HeapRel F β N H w) (hS : Soft H H') : ∀ {ks : List Bool} {ds : List DC} {l : List SC} {u : Hp} {r : List Nat} {f : Nat → Value}, (∀ k d, ds[k]? = some d → RepD F β N H w (f k) d) →
    stat1L H ks ds = some (l, u, r) → (∀ p ∈ u, ∃ z c, p.2 = some (.row false z c) ∧ H' p.1 = some (.row false z c)) → ∀ k c, l[k]? = some c → Rep (MV F β H' w) (MR F β H' w) (f k) c
  | ks, [], l, u, r, f, _, h, _ => by simp [stat1L] at h; obtain ⟨rfl, _, _⟩ := h; simp
  | ks, d :: ds, l, u, r, f, hf, h, hu => by
    simp only [stat1L] at h
    split at h
    · rename_i c u1 r1 h1
      split at h
      · rename_i cs u2 r2 h2
        simp at h
        obtain ⟨rfl, rfl, _⟩ := h
        intro k x hx
        cases k with
        | zero =>
          simp at hx; subst hx
          exact stat1_rep hR hS (hf 0 d rfl) h1 fun p hp => hu p (List.mem_append.2 (.inl hp))
        | succ k =>
          simp at hx
          exact stat1L_rep hR hS (f := fun k => f (k + 1)) (fun k d hd => hf (k + 1) d (by simpa using hd)) h2 (fun p hp => hu p (List.mem_append.2 (.inr hp))) k x hx
      · cases h
    · cases h
def Entry (C : Ctx) (H : HF) (u : Hp) (p : Nat × Option Blk) : Prop :=
  FreezeE H p ∨ ∃ t cs l ul rl, H p.1 = some (.box t cs) ∧ p.2 = some (.fbox l) ∧ stat1L H (C.kinds t) cs = some (l, ul, rl) ∧ ∀ q ∈ ul, q ∈ u
def Give (C : Ctx) (H : HF) (u : Hp) : Prop := ∀ p ∈ u, Entry C H u p
theorem on_cases (u : Hp) (H : HF) (id : Nat) : (u.on H id = H id ∧ ∀ p ∈ u, p.1 ≠ id) ∨ ∃ p ∈ u, p.1 = id ∧ u.on H id = p.2 := by
  induction u with
  | nil => exact .inl ⟨rfl, by simp⟩
  | cons q u ih =>
    obtain ⟨j, b⟩ := q
    by_cases h : id = j
    · exact .inr ⟨(j, b), by simp, h.symm, by simp [Hp.on, updH, h]⟩
    · have he : Hp.on ((j, b) :: u) H id = Hp.on u H id := by show updH _ _ _ id = _; simp [updH, h]
      rcases ih with ⟨h1, h2⟩ | ⟨p, h1, h2, h3⟩
      · refine .inl ⟨by rw [he, h1], fun p hp => ?_⟩
        rcases List.mem_cons.1 hp with rfl | hp
        · exact fun e => h e.symm
        · exact h2 p hp
      · exact .inr ⟨p, by simp [h1], h2, by rw [he, h3]⟩
theorem Give.soft {u : Hp} (h : Give C H u) : Soft H (u.on H) := by
  intro id
  rcases on_cases u H id with ⟨h1, _⟩ | ⟨p, hp, rfl, h1⟩
  · exact .inl h1
  · rcases h p hp with ⟨m, z, c, e1, e2⟩ | ⟨t, cs, l, ul, rl, e1, e2, _⟩
    · exact .inr (.inl ⟨m, z, c, e1, by rw [h1, e2]⟩)
    · exact .inr (.inr ⟨t, cs, l, e1, by rw [h1, e2]⟩)
theorem Give.frozen {u : Hp} (h : Give C H u) {p : Nat × Option Blk} (hp : p ∈ u) (hf : FreezeE H p) : ∃ z c, p.2 = some (.row false z c) ∧ u.on H p.1 = some (.row false z c) := by
  obtain ⟨m, z, c, e1, e2⟩ := hf
  refine ⟨z, c, e2, ?_⟩
  rcases on_cases u H p.1 with ⟨_, h1⟩ | ⟨q, hq, hqp, h1⟩
  · exact absurd rfl (h1 p hp)
  · rcases h q hq with ⟨m', z', c', q1, q2⟩ | ⟨t, cs, l, ul, rl, q1, _⟩
    · rw [hqp, e1] at q1; cases q1
      rw [h1, q2]
    · rw [hqp, e1] at q1; cases q1
theorem Give.heap {u : Hp} (hR : HeapRel F β N H w) (h : Give C H u) : HeapRel F β N (u.on H) w := by
  have hS := h.soft
  have hT : Tr F β N H w β N (u.on H) w := hS.tr
  refine hR.step hT (fun id => u.on H id ≠ H id) (fun id blk hid e => ?_) (fun id blk hid e => ?_) (fun i j b x y hi hj bi bj => ?_)
  · have : u.on H id = H id := Classical.byContradiction hid
    have e' : H id = some blk := by rw [← this]; exact e
    exact ⟨e', (hR.rel id blk e').1, fun _ _ => rfl⟩
  · rcases on_cases u H id with ⟨h1, _⟩ | ⟨p, hp, rfl, h1⟩
    · exact absurd h1 hid
    · rcases h p hp with ⟨m, z, c, e1, e2⟩ | ⟨t, cs, l, ul, rl, e1, e2, e3, e4⟩
      · rw [h1, e2] at e; cases e
        obtain ⟨hn, h0, hb⟩ := hR.rel _ _ e1
        refine ⟨hn, h0, ?_⟩
        rcases hb with hb | ⟨b, cap, q1, q2, arr, T, q3, q4, q5, q6, q7, q8, q9⟩
        · exact .inl hb
        · exact .inr ⟨b, cap, q1, q2, arr, T, q3, q4, q5, q6, q7, q8, fun i e j x he hx => (q9 i e j x he hx).mono hT.mv (Mem.le_refl _)⟩
      · rw [h1, e2] at e; cases e
        obtain ⟨hn, b, arr, T, q1, q2, q3, q4, q5⟩ := hR.rel _ _ e1
        refine ⟨hn, b, arr, T, q1, q2, q3, by rw [q4, stat1L_len e3], ?_⟩
        exact stat1L_rep hR hS q5 e3 fun q hq => h.frozen (e4 q hq) (stat1L_freeze e3 q hq)
  · obtain ⟨x', hx', _⟩ := hS.live hi
    obtain ⟨y', hy', _⟩ := hS.live hj
    exact hR.inj i j b x' y' hx' hy' bi bj
theorem Give.sealed {u : Hp} (h : Give C H u) {id : Nat} {t : TypeId} {ds : List DC} {l : List SC} {ue : Hp} {re : List Nat} (hp : (id, some (.fbox l)) ∈ u) (hb : H id = some (.box t ds))
    (hs : stat1L H (C.kinds t) ds = some (l, ue, re)) : u.on H id = some (.fbox l) := by
  rcases on_cases u H id with ⟨_, h1⟩ | ⟨q, hq, hqp, h1⟩
  · exact absurd rfl (h1 _ hp)
  · rcases h q hq with ⟨m', z', c', q1, q2⟩ | ⟨t', cs, l', ul, rl, q1, q2, q3, _⟩
    · rw [hqp, hb] at q1; cases q1
    · rw [hqp, hb] at q1; cases q1
      rw [hs] at q3; cases q3
      rw [h1, q2]
theorem Give.of_freeze {u : Hp} (h : ∀ p ∈ u, FreezeE H p) : Give C H u := fun p hp => .inl (h p hp)
theorem Give.append {u v : Hp} (h : Give C H u) (k : Give C H v) : Give C H (u ++ v) := by
  intro p hp
  rcases List.mem_append.1 hp with hp | hp
  · rcases h p hp with h | ⟨t, cs, l, ul, rl, e1, e2, e3, e4⟩
    · exact .inl h
    · exact .inr ⟨t, cs, l, ul, rl, e1, e2, e3, fun q hq => List.mem_append.2 (.inl (e4 q hq))⟩
  · rcases k p hp with h | ⟨t, cs, l, ul, rl, e1, e2, e3, e4⟩
    · exact .inl h
    · exact .inr ⟨t, cs, l, ul, rl, e1, e2, e3, fun q hq => List.mem_append.2 (.inr (e4 q hq))⟩
end
end Go.Fw
namespace Go.Fw
open Go.RowKit (Below)
theorem tyGet_mem : ∀ {l : List (Nat × TI)} {t : Nat} {i : TI}, tyGet l t = some i → (t, i) ∈ l
  | [], _, _, h => by simp [tyGet] at h
  | (j, b) :: l, t, i, h => by
    simp only [tyGet] at h
    split at h
    · rename_i e
      simp at h
      subst h
      rw [Nat.eq_of_beq_eq_true e]
      exact List.mem_cons_self
    · exact List.mem_cons_of_mem _ (tyGet_mem h)
structure TOk (P : Program) (t : TypeId) (i : TI) (f : TypeInfo) (d : TypeDesc) (v : Value) : Prop where
  info : P.info? t = some f
  und : P.underlying t = some d
  cls : clsOf d = i.cls
  size : f.size = i.size
  bytes : f.bytes = i.bytes
  zero : f.zero = some v
  zeroc : v.cells.toList.map zcOf = i.zero
  eqs : (if P.eqGuardType P.depth t then none else leaves P 8 t) = i.eqs
  fields : ∀ fs, d = .struct fs → ∀ g ∈ fs.toList, (P.info? g.type).isSome = true
theorem Ctx.Ok.get {C : Ctx} (h : C.Ok) {t : TypeId} {i : TI} (e : C.ti t = some i) : ∃ f d v, TOk C.P t i f d v := by
  have hm := tyGet_mem e
  obtain ⟨k, hk⟩ := List.mem_iff_getElem?.1 hm
  have hty := congrArg (·[k]?) h.ty
  simp only [List.getElem?_map, hk, Option.map_some, Option.some.injEq] at hty
  unfold tiOf at hty
  split at hty
  · rename_i f d hf hd
    split at hty
    · rename_i v hz hall
      simp only [Option.some.injEq, Prod.mk.injEq] at hty
      obtain ⟨h1, h2, h3, h4, h5⟩ := hty
      refine ⟨f, d, v, hf, hd, h1, h2, h3, hz, h4, h5, ?_⟩
      rintro fs rfl g hg
      simp only [List.all_eq_true] at hall
      exact hall g hg
    · cases hty
  · cases hty
section
variable {P : Program} {t : TypeId} {i : TI} {f : TypeInfo} {d : TypeDesc} {v : Value}
theorem TOk.run_und (h : TOk P t i f d v) (w : World) : (underlying t).run P w = .ok d w := run_underlying h.und w
theorem TOk.run_size (h : TOk P t i f d v) (w : World) : (sizeOf t).run P w = .ok i.size w := by simp [sizeOf, typeInfo, h.info, h.size]
theorem TOk.run_info (h : TOk P t i f d v) (w : World) : (typeInfo t).run P w = .ok f w := by simp [typeInfo, h.info]
theorem TOk.run_zero (h : TOk P t i f d v) (w : World) : (zeroValue t).run P w = .ok v w := by simp [zeroValue, typeInfo, h.info, h.zero]
theorem TOk.run_isAgg (h : TOk P t i f d v) (w : World) : (isAgg t).run P w = .ok (clsAg i.cls) w := by
  rw [← h.cls]
  cases d <;> simp [isAgg, h.run_und, clsOf, clsAg]
theorem cls_slice {e : TypeId} (h : clsOf d = .slice e) : d = .slice e := by cases d <;> simp [clsOf] at h; subst h; rfl
theorem cls_array {n : Nat} {e : TypeId} (h : clsOf d = .array n e) : d = .array n e := by cases d <;> simp [clsOf] at h; obtain ⟨rfl, rfl⟩ := h; rfl
theorem cls_int {k : IntKind} (h : clsOf d = .int k) : d = .int k := by cases d <;> simp [clsOf] at h; subst h; rfl
theorem cls_bool (h : clsOf d = .bool) : d = .bool := by cases d <;> simp [clsOf] at h; rfl
theorem cls_iface (h : clsOf d = .iface) : ∃ m, d = .interface m := by cases d <;> simp [clsOf] at h; exact ⟨_, rfl⟩
theorem cls_str (h : clsOf d = .str) : d = .string := by cases d <;> simp [clsOf] at h; rfl
theorem cls_struct {fs : List (Nat × TypeId)} (h : clsOf d = .struct fs) : ∃ gs, d = .struct gs ∧ gs.toList.map (fun f => (f.offset, f.type)) = fs := by
  cases d <;> simp [clsOf] at h; exact ⟨_, rfl, h⟩
end
theorem rep_one {mv mr : Mem} {v : Value} {c : SC} (h : Rep mv mr v c) : v.oneCell' = true := by
  cases h with
  | lit h => cases ‹Value› <;> simp [plain] at h <;> rfl
  | empty => rfl
  | view => rfl
  | ref => rfl
  | err h => obtain ⟨T, x, rfl⟩ := h; rfl
  | num h => obtain ⟨m, rfl⟩ := h; rfl
  | raw h => exact h
  | any h => exact h
  | fn => rfl
theorem one_cells {v : Value} (h : v.oneCell' = true) : v.cells = #[v] := by
  cases v <;> simp [Value.oneCell'] at h <;> rfl
section
variable (C : Ctx) (F : Fix) (β : Nat → Option Nat) (N : Nat → Prop) (H : HF) (fid : Nat) (K : OpK)
def Post (w : World) (v : Value) (w' : World) : Prop :=
  ∃ β' r u R, K r u R ∧ Tr F β N H w β' (setN N fid) (u.on H) w' ∧ HeapRel F β' (setN N fid) (u.on H) w' ∧ RepDV F β' (setN N fid) (u.on H) w' v r
end
section
variable {C : Ctx} {F : Fix} {β : Nat → Option Nat} {N : Nat → Prop} {H : HF} {fid : Nat} {K : OpK} {w w' : World}
theorem RepD.setN {f : Nat} {v : Value} {d : DC} (h : RepD F β N H w v d) : RepD F β (setN N f) H w v d := by
  cases d with
  | st c => exact h
  | nil => exact h
  | ptr id off => exact ⟨.inl h.1, h.2⟩
  | own id => exact ⟨.inl h.1, h.2⟩
  | rptr id z i off => exact ⟨.inl h.1, h.2⟩
  | clo g id => exact ⟨.inl h.1, h.2⟩
  | mp id => exact ⟨.inl h.1, h.2⟩
theorem Tr.setN {β' : Nat → Option Nat} {H' : HF} {f : Nat} (t : Tr F β N H w β' N H' w') : Tr F β N H w β' (setN N f) H' w' :=
  ⟨t.below, t.mem, fun _ h => .inl h, t.beta, t.keep, t.size, t.others⟩
theorem BlkRel.setN {f id : Nat} {b : Blk} (h : BlkRel F β N H w id b) : BlkRel F β (setN N f) H w id b := by
  cases b with
  | box t cs => obtain ⟨b, arr, T, h1, h2, h3, h4, h5⟩ := h; exact ⟨b, arr, T, h1, h2, h3, h4, fun k x hx => (h5 k x hx).setN⟩
  | fbox cs => exact h
  | row m z c => exact h
  | rowD z l =>
    obtain ⟨q0, q1 | ⟨b, cap, arr, T, q1, q2, q3, q4, q5, q6⟩⟩ := h
    · exact ⟨q0, .inl q1⟩
    · exact ⟨q0, .inr ⟨b, cap, arr, T, q1, q2, q3, q4, q5, fun i e k x hi hx => (q6 i e k x hi hx).setN⟩⟩
  | map es => exact h
theorem HeapRel.setN {f : Nat} (h : HeapRel F β N H w) : HeapRel F β (setN N f) H w :=
  ⟨fun id blk e => let ⟨a, b⟩ := h.rel id blk e; ⟨.inl a, b.setN⟩, h.inj, h.below, h.mem0⟩
theorem Post.still (hR : HeapRel F β N H w) {u : Hp} (hg : Give C H u) {R : List Nat} {r : DV} {v : Value} (hK : K r u R)
    (hv : RepDV F β (Fw.setN N fid) (u.on H) w v r) : Post F β N H fid K w v w :=
  ⟨β, r, u, R, hK, hg.soft.tr.setN, (hg.heap hR).setN, hv⟩
theorem RepDX.setN {f : Nat} {v : Value} {d : DX} (h : RepDX F β N H w v d) : RepDX F β (Fw.setN N f) H w v d := by
  unfold RepDX at *
  split
  · rename_i hx; rw [if_pos hx] at h
    obtain ⟨arr, h1, h2, h3⟩ := h
    exact ⟨arr, h1, h2, fun k c hc => (h3 k c hc).setN⟩
  · rename_i hx; rw [if_neg hx] at h
    obtain ⟨c, h1, h2⟩ := h
    exact ⟨c, h1, h2.setN⟩
theorem RepDV.setN {f : Nat} {v : Value} {d : DV} (h : RepDV F β N H w v d) : RepDV F β (Fw.setN N f) H w v d := by
  cases d with
  | val x => exact RepDX.setN h
  | tup l => obtain ⟨arr, h1, h2, h3⟩ := h; exact ⟨arr, h1, h2, fun k c hc => (h3 k c hc).setN⟩
theorem Post.pure (hR : HeapRel F β N H w) {R : List Nat} {r : DV} {v : Value} (hK : K r [] R) (hv : RepDV F β N H w v r) : Post F β N H fid K w v w :=
  ⟨β, r, [], R, hK, (Soft.refl H).tr.setN, hR.setN, hv.setN⟩
theorem repLit {v : Value} (h : plain v = true) : RepDV F β N H w v (lit v) := ⟨.st (.lit v), rfl, .lit h⟩
theorem repOne {v : Value} {d : DC} (h : RepD F β N H w v d) : RepDV F β N H w v (one d) := ⟨d, rfl, h⟩
theorem RepDX.one_inv {v : Value} {d : DC} (h : RepDX F β N H w v (false, [d])) : RepD F β N H w v d := by
  obtain ⟨c, h1, h2⟩ := h
  simp at h1; subst h1; exact h2
theorem RepDX.agg_inv {v : Value} {cs : List DC} (h : RepDX F β N H w v (true, cs)) : ∃ arr, v = .agg arr ∧ arr.size = cs.length ∧ ∀ k c, cs[k]? = some c → RepD F β N H w (arr.getD k undef) c := h
theorem RepD.err_inv {v : Value} (h : RepD F β N H w v (.st .err)) : ∃ T x, v = .iface T x := by
  have h : Rep _ _ v .err := h
  cases h with
  | empty a cap hv => simp [SC.isView] at hv
  | view _ _ _ _ _ hv => simp [SC.isView] at hv
  | err h => exact h
theorem RepD.lit_inv {v x : Value} (h : RepD F β N H w v (.st (.lit x))) : v = x ∧ plain x = true := by
  cases h with
  | lit h => exact ⟨rfl, h⟩
  | empty a cap hv => simp [SC.isView] at hv
  | view _ _ _ _ _ hv => simp [SC.isView] at hv
structure Globs (C : Ctx) (F : Fix) : Prop where
  ok : GlobOK C.gl (rd F.w0)
  mv : F.mv0.le (rd F.w0)
  nown : ∀ g cs, (g, cs) ∈ C.gl → 0 < cs.length → ¬ F.own g
  rok : GlobOK C.gl F.mr0
  rle : F.mr0.le (rd F.w0)
  mvr : F.mv0.le F.mr0
theorem globGet_mem : ∀ {l : Glob} {t : Nat} {i : List SC}, globGet l t = some i → (t, i) ∈ l
  | [], _, _, h => by simp [globGet] at h
  | (j, b) :: l, t, i, h => by
    simp only [globGet] at h
    split at h
    · rename_i e
      simp at h
      subst h
      rw [Nat.eq_of_beq_eq_true e]
      exact List.mem_cons_self
    · exact List.mem_cons_of_mem _ (globGet_mem h)
theorem not_mine {b o : Nat} {v : Value} (e : rd F.w0 b o = some v) (hn : ¬ F.own b) : ¬ F.mine b := by
  have hb : b < F.base := World.block_lt_of_cell? _ _ e
  rintro (h | h)
  · omega
  · exact hn h
theorem MR_low {b o : Nat} {v : Value} (e : F.mr0 b o = some v) (hm : ¬ F.mine b) : MR F β H w b o = some v := by
  unfold MR
  rw [if_neg hm]; exact e
theorem MR_rd0 {C : Ctx} (hG : Globs C F) (hR : HeapRel F β N H w) : (MR F β H w).le (rd w) := by
  intro b o v h
  unfold MR at h
  split at h
  · unfold MV at h
    rename_i hb
    rw [if_pos hb] at h
    split at h
    · exact h
    · cases h
  · rename_i hb
    exact hR.below.rd hb (hG.rle b o v h)
theorem GlobOK.mr {C : Ctx} (hG : Globs C F) : GlobOK C.gl (MR F β H w) := by
  intro g cs hm
  obtain ⟨h0, h9⟩ := hG.rok g cs hm
  have hn : 0 < cs.length → ¬ F.mine g := fun hpos => by
    obtain ⟨v, h1, _⟩ := h0 0 cs[0] (by simp [hpos])
    exact not_mine (hG.rle g 0 v h1) (hG.nown g cs hm hpos)
  refine ⟨fun k x hx => ?_, fun hpos => ?_⟩
  · obtain ⟨v, h1, h2⟩ := h0 k x hx
    exact ⟨v, MR_low h1 (hn (Nat.lt_of_le_of_lt (Nat.zero_le _) (List.getElem?_eq_some_iff.1 hx).1)), h2⟩
  · unfold MR
    rw [if_neg (hn hpos)]; exact h9 hpos
theorem constDV_ok {v : Value} {d : DV} (h : constDV v = some d) : RepDV F β N H w v d := by
  unfold constDV at h
  split at h
  · simp at h; subst h; exact repOne rfl
  · split at h
    · rename_i a b _ _ ha hb
      simp at h; subst h
      have ha : a = #[] := by apply Array.ext'; simpa using ha
      have hb : b = #[] := by apply Array.ext'; simpa using hb
      subst ha; subst hb
      exact repOne (.fn #[] #[] (fun _ => #[]) rfl rfl (by simp) (by simp) (by simp) (by simp) (by simp))
    · cases h
  · split at h
    · rename_i hp; simp at h; subst h; exact repLit hp
    · cases h
theorem ev_ok (hG : Globs C F) (_hR : HeapRel F β N H w) {E : EF} {a : Act} (hE : EnvRel F β N H w E a) {x : Operand} {d : DV} (h : C.ev E x = some d) : RepDV F β N H w (a.eval x) d := by
  cases x with
  | tmp t => exact hE t d h
  | const v => exact constDV_ok h
  | global g =>
    simp only [Ctx.ev] at h
    split at h
    · rename_i cs hc
      simp at h; subst h
      have hm := globGet_mem hc
      have hok := (GlobOK.mr (β := β) (H := H) (w := w) hG g cs hm).1
      refine repOne ?_
      refine .ref g 0 (fun k => ((MR F β H w g k).getD undef)) (fun k hk => ?_) (fun k x hx => ?_)
      · obtain ⟨v, h1, _⟩ := hok k cs[k] (by simp [hk])
        rw [Nat.zero_add, h1]; rfl
      · obtain ⟨v, h1, h2⟩ := hok k x hx
        rw [h1]
        exact h2.mono (nomem_le _) (nomem_le _)
    · cases h
  | func f =>
    simp [Ctx.ev] at h; subst h
    exact repOne (.fn #[] #[] (fun _ => #[]) rfl rfl (by simp) (by simp) (by simp) (by simp) (by simp))
end
end Go.Fw
namespace Go.Fw
open Go.RowKit (Below)
section
variable {C : Ctx} {F : Fix} {β : Nat → Option Nat} {N : Nat → Prop} {H : HF} {fid : Nat} {K : OpK} {w w' : World} {P : Program}
theorem addr_add (b o n : Nat) : (⟨b, o, none⟩ : Addr).add n = ⟨b, o + n, none⟩ := Addr.add_lit b o n
def aggOf (ag : Bool) (n : Nat) (f : Nat → Value) : Value := if ag then .agg ((List.range n).map f).toArray else f 0
theorem run_loadVar {t : TypeId} {i : TI} {tf : TypeInfo} {d : TypeDesc} {z : Value} (hT : TOk P t i tf d z) {b off : Nat} {f : Nat → Value}
    (hc : ∀ k, k < i.size → rd w b (off + k) = some (f k)) (hs : (clsAg i.cls || Nat.beq i.size 1) = true) : (loadVar t ⟨b, off, none⟩).run P w = .ok (aggOf (clsAg i.cls) i.size f) w := by
  unfold loadVar aggOf
  simp only [Sem.run_bind, hT.run_isAgg, Result.andThen_ok]
  cases hag : clsAg i.cls
  · simp only [hag, Bool.false_or] at hs
    have h1 : i.size = 1 := Nat.eq_of_beq_eq_true hs
    have := hc 0 (by omega)
    simp only [rd, Nat.add_zero] at this
    simp [this]
  · simp only [if_true, Sem.run_bind, hT.run_size, Result.andThen_ok]
    rw [run_loadCells w _ _ f (fun j hj => by rw [addr_add]; exact hc j hj)]
    simp
theorem repDX_part {f : Nat → Value} {cs : List DC} {off n : Nat} {ag : Bool} (hcs : ∀ k c, cs[k]? = some c → RepD F β N H w (f k) c) (hl : off + n ≤ cs.length)
    (hs : (ag || Nat.beq n 1) = true) : RepDX F β N H w (aggOf ag n fun k => f (off + k)) (ag, (cs.drop off).take n) := by
  cases ag
  · simp only [Bool.false_or] at hs
    have h1 : n = 1 := Nat.eq_of_beq_eq_true hs
    subst h1
    refine ⟨cs[off], ?_, ?_⟩
    · rw [List.drop_eq_getElem_cons (by omega)]; rfl
    · exact hcs off _ (by simp)
  · refine ⟨_, rfl, by simp; omega, fun k c hc => ?_⟩
    rw [List.getElem?_take] at hc
    split at hc
    · rename_i hk
      rw [List.getElem?_drop] at hc
      have : (((List.range n).map fun k => f (off + k)).toArray.getD k undef) = f (off + k) := by simp [Array.getD, hk]
      rw [this]
      exact hcs _ _ hc
    · cases hc
theorem repDX_st {f : Nat → Value} {cs : List SC} {off n : Nat} {ag : Bool} (hcs : ∀ k c, cs[k]? = some c → Rep (MV F β H w) (MR F β H w) (f k) c) (hl : off + n ≤ cs.length)
    (hs : (ag || Nat.beq n 1) = true) : RepDX F β N H w (aggOf ag n fun k => f (off + k)) (ag, ((cs.drop off).take n).map .st) := by
  have := repDX_part (N := N) (f := f) (cs := cs.map .st) (off := off) (n := n) (ag := ag) (fun k c hc => by
    rw [List.getElem?_map] at hc
    cases hk : cs[k]? with
    | none => simp [hk] at hc
    | some x => simp [hk] at hc; subst hc; exact hcs k x hk) (by simpa using hl) hs
  rwa [← List.map_drop, ← List.map_take] at this
theorem ble_and {a b : Bool} (h : (a && b) = true) : a = true ∧ b = true := by simpa using h
theorem load_ok (hC : C.Ok) (hG : Globs C F) (hR : HeapRel F β N H w) {T : TypeId} {x : DX} {v0 : Value} (hx : RepDX F β N H w v0 x) (h : loadA C T x H K) :
    ∃ v, (Instr.loadAt T v0).run C.P w = .ok v w ∧ Post F β N H fid K w v w := by
  unfold loadA at h
  split at h
  · exact h.elim
  rename_i i hi
  obtain ⟨tf, d, z, hT⟩ := hC.get hi
  have hrun : ∀ {b o : Nat} {f : Nat → Value}, (∀ k, k < i.size → rd w b (o + k) = some (f k)) → (clsAg i.cls || Nat.beq i.size 1) = true →
      (Instr.loadAt T (.pointer (some ⟨b, o, none⟩))).run C.P w = .ok (aggOf (clsAg i.cls) i.size f) w := by
    intro b o f hc hs
    simp only [Instr.loadAt, Instr.sureAddr, Sem.run_bind, Sem.run_pure, Result.andThen_ok]
    exact run_loadVar hT hc hs
  split at h
  ·
    rename_i id off
    obtain ⟨hn, b, hbb, rfl⟩ := hx.one_inv
    split at h
    · rename_i t cs hb
      obtain ⟨_, b', arr, T', h1, h2, h3, h4, h5⟩ := hR.rel id _ hb
      rw [hbb] at h1; cases h1
      split at h
      · rename_i hle
        obtain ⟨hle, hs⟩ := ble_and hle
        have hle := Nat.le_of_ble_eq_true hle
        exact ⟨_, hrun (f := fun k => arr.getD (off + k) undef) (fun k hk => rd_cells h3 (by omega)) hs,
          Post.pure hR h (repDX_part (f := fun k => arr.getD k undef) (fun k c hc => h5 k c hc) hle hs)⟩
      · exact h.elim
    · rename_i cs hb
      obtain ⟨_, b', arr, T', h1, h2, h3, h4, h5⟩ := hR.rel id _ hb
      rw [hbb] at h1; cases h1
      split at h
      · rename_i hle
        obtain ⟨hle, hs⟩ := ble_and hle
        have hle := Nat.le_of_ble_eq_true hle
        exact ⟨_, hrun (f := fun k => arr.getD (off + k) undef) (fun k hk => rd_cells h3 (by omega)) hs,
          Post.pure hR h (repDX_st (f := fun k => arr.getD k undef) (fun k c hc => h5 k c hc) hle hs)⟩
      · exact h.elim
    · exact h.elim
  ·
    rename_i cs
    have hp := hx.one_inv
    split at h
    · rename_i hle
      obtain ⟨hle, hs⟩ := ble_and hle
      have hle := Nat.le_of_ble_eq_true hle
      cases hp with
      | empty a cap hv => simp [SC.isView] at hv
      | view _ _ _ _ _ hv => simp [SC.isView] at hv
      | ref b o f hc hr =>
        have hrd : ∀ k, k < cs.length → rd w b (o + k) = some (f k) := by
          intro k hk
          exact MR_rd0 hG hR _ _ _ (hc k hk)
        have := repDX_st (N := N) (f := f) (off := 0) (n := i.size) (cs := cs) (ag := clsAg i.cls) hr (by omega) hs
        refine ⟨_, hrun (f := f) (fun k hk => hrd k (by omega)) hs, Post.pure hR h ?_⟩
        show RepDX _ _ _ _ _ _ _
        simpa using this
    · exact h.elim
  ·
    rename_i id z0 n off
    obtain ⟨hn, b, hbb, rfl⟩ := hx.one_inv
    split at h
    · rename_i m z' c hb
      split at h
      · rename_i hle
        obtain ⟨hle, hs⟩ := ble_and hle
        obtain ⟨hzz, hle⟩ := ble_and hle
        have hle := Nat.le_of_ble_eq_true hle
        have hzz := Nat.eq_of_beq_eq_true hzz
        subst hzz
        obtain ⟨e, he, h⟩ := h
        obtain ⟨_, ⟨hz, hv, hl⟩, hrow⟩ := hR.rel id _ hb
        rcases hrow with ⟨h1, _⟩ | ⟨b', cap, h1, h2, arr, T', q1, q2, q3, q4, q5, q6, q7⟩
        · rw [hbb] at h1; cases h1
        rw [hbb] at h1; cases h1
        have hel := hl n e he
        have hlt := SC.elem_lt he
        have hin : n * z0 + z0 ≤ arr.size := by
          rw [q2]
          have : (n + 1) * z0 ≤ cap * z0 := Nat.mul_le_mul_right _ (by omega)
          rw [Nat.add_mul] at this; omega
        exact ⟨_, hrun (f := fun k => arr.getD (n * z0 + (off + k)) undef) (fun k hk => by rw [Nat.add_assoc]; exact rd_cells q1 (by omega)) hs,
          Post.pure hR h (repDX_st (f := fun k => arr.getD (n * z0 + k) undef) (fun k c hc => (q7 n e k c he hc).mono (Mem.le_refl _) (nomem_le _)) (by omega) hs)⟩
      · exact h.elim
    · rename_i z' l hb
      split at h
      · rename_i hle
        obtain ⟨hle, hs⟩ := ble_and hle
        obtain ⟨hzz, hle⟩ := ble_and hle
        have hle := Nat.le_of_ble_eq_true hle
        have hzz := Nat.eq_of_beq_eq_true hzz
        subst hzz
        obtain ⟨e, he, h⟩ := h
        obtain ⟨_, ⟨hz, hl⟩, hrow⟩ := hR.rel id _ hb
        rcases hrow with ⟨h1, _⟩ | ⟨b', cap, arr, T', h1, h2, q1, q2, q3, q4⟩
        · rw [hbb] at h1; cases h1
        rw [hbb] at h1; cases h1
        have hel := hl n e he
        have hlt := (List.getElem?_eq_some_iff.1 he).1
        have hin : n * z0 + z0 ≤ arr.size := by
          rw [q2]
          have : (n + 1) * z0 ≤ cap * z0 := Nat.mul_le_mul_right _ (by omega)
          rw [Nat.add_mul] at this; omega
        exact ⟨_, hrun (f := fun k => arr.getD (n * z0 + (off + k)) undef) (fun k hk => by rw [Nat.add_assoc]; exact rd_cells q1 (by omega)) hs,
          Post.pure hR h (repDX_part (f := fun k => arr.getD (n * z0 + k) undef) (fun k c hc => q4 n e k c he hc) (by omega) hs)⟩
      · exact h.elim
    · exact h.elim
  · exact h.elim
theorem clamp_drop {mv mr : Mem} {cs : List SC} {b o : Nat} (h : Rep mv mr (.pointer (some ⟨b, o, none⟩)) (.ref cs)) (n : Nat) : Rep mv mr (.pointer (some ⟨b, o + n, none⟩)) (.ref (cs.drop n)) := by
  cases h with
  | ref _ _ f hc hr =>
    refine .ref b (o + n) (fun k => f (n + k)) (fun k hk => ?_) (fun k x hx => ?_)
    · rw [Nat.add_assoc]; exact hc _ (by simp at hk; omega)
    · rw [List.getElem?_drop] at hx; exact hr _ _ hx
theorem ref_ptr {mv mr : Mem} {v : Value} {cs : List SC} (h : Rep mv mr v (.ref cs)) : ∃ b o, v = .pointer (some ⟨b, o, none⟩) := by
  cases h with
  | ref b o f hc hr => exact ⟨b, o, rfl⟩
  | empty a cap hv => simp [SC.isView] at hv
  | view _ _ _ _ _ hv => simp [SC.isView] at hv
theorem fieldAddr_ok (hC : C.Ok) (hR : HeapRel F β N H w) {T : TypeId} {x : DX} {v0 : Value} {n : Nat} (hx : RepDX F β N H w v0 x) (h : fieldAddrA C T x n K) :
    ∃ v, (Instr.fieldAt T v0 n).run C.P w = .ok v w ∧ Post F β N H fid K w v w := by
  unfold fieldAddrA at h
  split at h
  · exact h.elim
  rename_i i hi
  obtain ⟨tf, d, z, hT⟩ := hC.get hi
  split at h
  · rename_i fs hcls
    obtain ⟨gs, hd, hgs⟩ := cls_struct (hT.cls.trans hcls)
    split at h
    · rename_i o ft hfs
      split at h
      · rename_i fi hfi
        obtain ⟨ff, fd, fz, hF⟩ := hC.get hfi
        split at h
        · rename_i hsz
          have hsz := Nat.le_of_ble_eq_true hsz
          rw [← hgs, List.getElem?_map] at hfs
          cases hg : gs.toList[n]? with
          | none => simp [hg] at hfs
          | some g =>
            simp [hg] at hfs
            obtain ⟨ho, hft⟩ := hfs
            have hg' : gs[n]? = some g := by simpa using hg
            have hrun : ∀ b off, (Instr.fieldAt T (.pointer (some ⟨b, off, none⟩)) n).run C.P w = .ok (.pointer (some ⟨b, off + o, none⟩)) w := by
              intro b off
              have hne : ¬ fi.size = 0 := by omega
              simp [Instr.fieldAt, hT.run_und, hd, hg', Instr.sureAddr, fieldPlace, hft, hF.run_size, hne, addr_add, ho]
            split at h
            · rename_i id off
              obtain ⟨hn, b, hbb, rfl⟩ := hx.one_inv
              exact ⟨_, hrun b off, Post.pure hR h (repOne ⟨hn, b, hbb, rfl⟩)⟩
            · rename_i cs
              obtain ⟨b, off, rfl⟩ := ref_ptr hx.one_inv
              exact ⟨_, hrun b off, Post.pure hR h (repOne (clamp_drop hx.one_inv o))⟩
            · rename_i id z0 m off
              obtain ⟨hn, b, hbb, rfl⟩ := hx.one_inv
              exact ⟨_, hrun b _, Post.pure hR h (repOne ⟨hn, b, hbb, by rw [Nat.add_assoc]⟩)⟩
            · exact h.elim
        · exact h.elim
      · exact h.elim
    · exact h.elim
  · exact h.elim
theorem Keep.setRow {m : Nat → Prop} {b : Nat} (hb : m b) (arr : Array Value) : Keep m w (w.setRow b arr) :=
  ⟨rfl, rfl, rfl, by simp, fun k _ hk => setRow_other w b k arr (fun e => hk (e ▸ hb))⟩
theorem setRow_others {b : Nat} (harr : ∃ arr T, w.heap[b]? = some (.cells arr T)) (arr' : Array Value) (k : Nat) (x : Option (List Deferred)) (e : w.heap[k]? = some (.deferred x)) : (w.setRow b arr').heap[k]? = some (.deferred x) := by
  obtain ⟨arr, T, h⟩ := harr
  rw [setRow_other w b k arr' (fun h' => by subst h'; rw [h] at e; cases e)]; exact e
theorem Tr.write (hR : HeapRel F β N H w) {id b : Nat} {blk blk' : Blk} {arr arr' : Array Value} {T : TypeId} (hb : H id = some blk) (hβ : β id = some b)
    (harr : w.heap[b]? = some (.cells arr T)) (hsz : arr'.size = arr.size) (hl : blk.like blk') (hst : ∀ o, blk.stab o → blk'.stab o ∧ arr'[o]? = arr[o]?) :
    Tr F β N H w β N (updH H id (some blk')) (w.setRow b arr') where
  others := setRow_others ⟨_, _, harr⟩ arr'
  below := Keep.setRow (hR.live_lt hb hβ).2 arr'
  mem := fun b' o v _ hs e => by
    refine ⟨fun id' blk0 e' hb' => ?_, ?_⟩
    · by_cases h : id' = id
      · subst h
        rw [updH_same] at e'; cases e'
        exact (hst o (hs id' blk hb hb')).1
      · rw [updH_ne _ _ _ h] at e'
        exact hs id' blk0 e' hb'
    · by_cases h : b' = b
      · subst h
        have := (hst o (hs id blk hb hβ)).2
        simp only [rd, World.cell?, harr] at e
        simp only [rd, World.cell?, setRow_heap w b' arr arr' T (0, 0) harr]
        simpa [this] using e
      · unfold rd at e ⊢
        rw [cell_setRow_other w b arr' _ h]; exact e
  used := fun _ h => h
  beta := fun _ _ => rfl
  keep := fun id' blk0 _ e => by
    by_cases h : id' = id
    · subst h
      rw [updH_same] at e; cases e
      exact ⟨blk, hb, hl⟩
    · rw [updH_ne _ _ _ h] at e
      exact ⟨blk0, e, blk0.like_refl⟩
  size := fun _ _ _ b' arr0 T0 _ _ _ _ _ e => by
    by_cases h : b' = b
    · subst h
      rw [harr] at e; cases e
      exact ⟨arr', setRow_heap w b' _ arr' _ (0, 0) harr, hsz⟩
    · exact ⟨arr0, by rw [setRow_other w b b' arr' h]; exact e, rfl⟩
theorem HeapRel.write (hR : HeapRel F β N H w) {id b : Nat} {blk blk' : Blk} {arr arr' : Array Value} {T : TypeId} (hb : H id = some blk) (hβ : β id = some b)
    (harr : w.heap[b]? = some (.cells arr T)) (hsz : arr'.size = arr.size) (hl : blk.like blk') (hst : ∀ o, blk.stab o → blk'.stab o ∧ arr'[o]? = arr[o]?)
    (hrel : BlkRel F β N (updH H id (some blk')) (w.setRow b arr') id blk') : HeapRel F β N (updH H id (some blk')) (w.setRow b arr') := by
  refine hR.step (Tr.write hR hb hβ harr hsz hl hst) (fun i => i = id) (fun i b0 hi e => ?_) (fun i b0 hi e => ?_) (fun i j x y z hi hj bi bj => ?_)
  · rw [updH_ne _ _ _ hi] at e
    refine ⟨e, (hR.rel i b0 e).1, fun b1 h1 => setRow_other w b b1 arr' fun h => hi ?_⟩
    subst h
    exact hR.inj i id b1 b0 blk e hb h1 hβ
  · subst hi
    rw [updH_same] at e; cases e
    exact ⟨(hR.rel i blk hb).1, hrel⟩
  · have live : ∀ {k : Nat} {b0 : Blk}, updH H id (some blk') k = some b0 → ∃ b1, H k = some b1 := by
      intro k b0 h
      by_cases hk : k = id
      · subst hk; exact ⟨blk, hb⟩
      · rw [updH_ne _ _ _ hk] at h; exact ⟨b0, h⟩
    obtain ⟨b1, h1⟩ := live hi
    obtain ⟨b2, h2⟩ := live hj
    exact hR.inj i j x b1 b2 h1 h2 bi bj
theorem RepD.one_cell {v : Value} {c : DC} (h : RepD F β N H w v c) : v.oneCell' = true := by
  cases c with
  | st c => exact rep_one h
  | nil => have : v = .slice none 0 0 := h; subst this; rfl
  | ptr id off => obtain ⟨_, b, _, rfl⟩ := h; rfl
  | rptr id z i off => obtain ⟨_, b, _, rfl⟩ := h; rfl
  | clo g id => obtain ⟨_, b, _, rfl⟩ := h; rfl
  | mp id => obtain ⟨_, b, _, rfl⟩ := h; rfl
  | own id => exact h.2.1
theorem RepDX.cells {v : Value} {x : DX} (h : RepDX F β N H w v x) : v.cells.size = x.2.length ∧ ∀ k c, x.2[k]? = some c → RepD F β N H w (v.cells.getD k undef) c := by
  obtain ⟨ag, cs⟩ := x
  cases ag
  · obtain ⟨c, h0, hc⟩ := h
    simp at h0; subst h0
    rw [one_cells hc.one_cell]
    refine ⟨rfl, fun k c' hk => ?_⟩
    cases k with
    | zero => simp at hk; subst hk; exact hc
    | succ k => simp at hk
  · obtain ⟨arr, rfl, h2, h3⟩ := h
    exact ⟨h2, h3⟩
theorem RepDX.cells_one {v : Value} {x : DX} (h : RepDX F β N H w v x) : ∀ u ∈ v.cells.toList, u.oneCell' = true := by
  intro u hu
  obtain ⟨k, hk⟩ := List.mem_iff_getElem?.1 hu
  have hk' : v.cells[k]? = some u := by simpa using hk
  obtain ⟨h1, h2⟩ := h.cells
  have hlt : k < v.cells.size := (Array.getElem?_eq_some_iff.1 hk').1
  have := h2 k x.2[k] (by simp [h1 ▸ hlt])
  have e : v.cells.getD k undef = u := by simp [Array.getD, hlt]; exact (Array.getElem?_eq_some_iff.1 hk').2
  rw [e] at this
  exact this.one_cell
def spliceA (arr : Array Value) (off : Nat) (vs : List Value) : Array Value := (arr.toList.take off ++ vs ++ arr.toList.drop (off + vs.length)).toArray
theorem spliceA_size {arr : Array Value} {off : Nat} {vs : List Value} (h : off + vs.length ≤ arr.size) : (spliceA arr off vs).size = arr.size := by
  simp [spliceA]; omega
theorem splice_get {α : Type} {l : List α} {off : Nat} {vs : List α} (h : off + vs.length ≤ l.length) (k : Nat) :
    (splice l off vs)[k]? = if k < off then l[k]? else if k < off + vs.length then vs[k - off]? else l[k]? := by
  unfold splice
  have hmin : min off l.length = off := by omega
  by_cases h1 : k < off
  · rw [if_pos h1, List.append_assoc, List.getElem?_append_left (by simp; omega)]
    simp [h1]
  · rw [if_neg h1]
    by_cases h2 : k < off + vs.length
    · rw [if_pos h2, List.getElem?_append_left (by simp; omega), List.getElem?_append_right (by simp; omega)]
      simp [hmin]
    · rw [if_neg h2, List.getElem?_append_right (by simp; omega), List.getElem?_drop]
      simp [hmin]
      congr 1; omega
theorem spliceA_get {arr : Array Value} {off : Nat} {vs : List Value} (h : off + vs.length ≤ arr.size) (k : Nat) :
    (spliceA arr off vs)[k]? = if k < off then arr[k]? else if k < off + vs.length then vs[k - off]? else arr[k]? := by
  have := splice_get (l := arr.toList) (vs := vs) (off := off) (by simpa using h) k
  simp only [Array.getElem?_toList] at this
  rw [← this]
  simp [spliceA, splice]
theorem getD_of {arr : Array Value} {k : Nat} {v : Value} (h : arr[k]? = some v) : arr.getD k undef = v := by
  obtain ⟨h1, h2⟩ := Array.getElem?_eq_some_iff.1 h
  simp [Array.getD, h1, h2]
theorem getD_congr {a b : Array Value} {k l : Nat} (h : a[k]? = b[l]?) : a.getD k undef = b.getD l undef := by
  simp only [Array.getD_eq_getD_getElem?, h]
theorem run_storeVar {t : TypeId} {i : TI} {tf : TypeInfo} {d : TypeDesc} {z v : Value} (hT : TOk P t i tf d z) {b off : Nat} {arr : Array Value} {T : TypeId}
    (harr : w.heap[b]? = some (.cells arr T)) (hv : v.cells.size = i.size) (h1 : ∀ u ∈ v.cells.toList, u.oneCell' = true) (hle : off + i.size ≤ arr.size) :
    (storeVar t ⟨b, off, none⟩ v).run P w = .ok () (w.setRow b (spliceA arr off v.cells.toList)) := by
  unfold storeVar
  simp only [Sem.run_bind, hT.run_size, Result.andThen_ok, hv, ne_eq, not_true_eq_false, if_false]
  have := run_storeCells_at P b off T v.cells.toList 0 arr w harr (by simp [hv]; omega) h1
  simpa [spliceA] using this
theorem SC.setElem_len {c c' : SC} {n : Nat} {e : List SC} (h : c.setElem n e = some c') : c'.len = c.len ∧ c'.isView = c.isView := by
  unfold SC.setElem at h
  split at h <;> simp at h <;> subst h <;> simp [SC.len, SC.isView]
theorem SC.setElem_elem {c c' : SC} {n : Nat} {e : List SC} (h : c.setElem n e = some c') (hn : n < c.len) (j : Nat) : c'.elem j = if j = n then some e else c.elem j := by
  unfold SC.setElem at h
  split at h
  · simp at h; subst h
    simp only [SC.len] at hn
    simp only [SC.elem, List.getElem?_set]
    by_cases hj : n = j
    · subst hj; simp [hn]
    · have : ¬ j = n := fun h => hj h.symm
      simp [hj, this]
  · simp at h; subst h
    simp only [SC.len] at hn
    simp only [SC.elem, List.getElem?_set]
    by_cases hj : n = j
    · subst hj; simp [hn]
    · have : ¬ j = n := fun h => hj h.symm
      simp [hj, this]
  · cases h
theorem flats_get : ∀ {l : List SC}, flats l = true → ∀ (k : Nat) (x : SC), l[k]? = some x → x.flat = true
  | [], _, k, x, h => by simp at h
  | c :: cs, hf, k, x, h => by
    simp only [flats] at hf
    split at hf
    · rename_i hc
      cases k with
      | zero => simp at h; subst h; exact hc
      | succ k => exact flats_get hf k x (by simpa using h)
    · cases hf
theorem store_ok (hC : C.Ok) (hR : HeapRel F β N H w) {T : TypeId} {x y : DX} {v0 v1 : Value} (hx : RepDX F β N H w v0 x) (hy : RepDX F β N H w v1 y) (h : storeA C T x y H K) :
    ∃ w', (Instr.storeAt T v0 v1).run C.P w = .ok () w' ∧ Post F β N H fid K w undef w' := by
  unfold storeA at h
  split at h
  · exact h.elim
  rename_i i hi
  obtain ⟨tf, d, z, hT⟩ := hC.get hi
  obtain ⟨hc1, hc2⟩ := hy.cells
  have hone := hy.cells_one
  split at h
  · exact h.elim
  rename_i hlen
  have hlen := Nat.eq_of_beq_eq_true hlen
  have hrun : ∀ {b off : Nat} {arr : Array Value} {T0 : TypeId}, w.heap[b]? = some (.cells arr T0) → off + i.size ≤ arr.size →
      (Instr.storeAt T (.pointer (some ⟨b, off, none⟩)) v1).run C.P w = .ok () (w.setRow b (spliceA arr off v1.cells.toList)) := by
    intro b off arr T0 harr hle
    simp only [Instr.storeAt, Instr.sureAddr, Sem.run_bind, Sem.run_pure, Result.andThen_ok]
    exact run_storeVar hT harr (by omega) hone hle
  have hlenc : v1.cells.toList.length = i.size := by simp [hc1, hlen]
  split at h
  · rename_i id off
    obtain ⟨hn, b, hbb, rfl⟩ := hx.one_inv
    split at h
    · rename_i t cs hb
      obtain ⟨_, b', arr, T', h1, h2, h3, h4, h5⟩ := hR.rel id _ hb
      rw [hbb] at h1; cases h1
      split at h
      · rename_i hle
        have hle := Nat.le_of_ble_eq_true hle
        refine ⟨_, hrun h3 (by omega), ?_⟩
        have hsz : (spliceA arr off v1.cells.toList).size = arr.size := spliceA_size (by omega)
        have hst : ∀ o, (Blk.box t cs).stab o → (Blk.box t (splice cs off y.2)).stab o ∧ (spliceA arr off v1.cells.toList)[o]? = arr[o]? := fun o h => h.elim
        have hT' := Tr.write (N := N) (blk' := .box t (splice cs off y.2)) hR hb hbb h3 hsz trivial hst
        have hH := HeapRel.write (N := N) (blk' := .box t (splice cs off y.2)) hR hb hbb h3 hsz trivial hst ⟨b, _, T', hbb, h2, setRow_heap w b arr _ T' (0, 0) h3, by rw [hsz, h4]; simp [splice]; omega, fun k x hk => ?_⟩
        · exact ⟨β, _, _, _, h, hT'.setN, hH.setN, ⟨#[], rfl, rfl, by simp⟩⟩
        · rw [splice_get (by omega)] at hk
          have e := spliceA_get (arr := arr) (off := off) (vs := v1.cells.toList) (by omega) k
          rw [hlenc] at e
          by_cases k1 : k < off
          · simp only [k1, if_true] at hk e
            rw [getD_congr e]
            exact hT'.repD hR (h5 k x hk)
          · by_cases k2 : k < off + i.size
            · have k2' : k < off + y.2.length := by omega
              simp only [k1, if_false, k2, if_true, k2'] at hk e
              rw [getD_congr (b := v1.cells) (l := k - off) (by rw [e]; simp)]
              exact hT'.repD hR (hc2 _ x hk)
            · have k2' : ¬ k < off + y.2.length := by omega
              simp only [k1, if_false, k2, k2'] at hk e
              rw [getD_congr e]
              exact hT'.repD hR (h5 k x hk)
      · exact h.elim
    · exact h.elim
  · rename_i id z0 n off
    obtain ⟨hn, b, hbb, rfl⟩ := hx.one_inv
    split at h
    · rename_i z' c hb
      split at h
      · rename_i hle
        obtain ⟨hzz, hle⟩ := ble_and hle
        have hle := Nat.le_of_ble_eq_true hle
        have hzz := Nat.eq_of_beq_eq_true hzz
        subst hzz
        split at h
        · rename_i l r hst1
          split at h
          · rename_i hfl
            obtain ⟨e, he, h⟩ := h
            split at h
            · rename_i c' hset
              obtain ⟨_, ⟨hz, hv, hl⟩, hrow⟩ := hR.rel id _ hb
              rcases hrow with ⟨h1, _⟩ | ⟨b', cap, h1, h2, arr, T', q1, q2, q3, q4, q5, q6, q7⟩
              · rw [hbb] at h1; cases h1
              rw [hbb] at h1; cases h1
              have hel := hl n e he
              have hlt := SC.elem_lt he
              have hin : n * z0 + z0 ≤ arr.size := by
                rw [q2]
                have : (n + 1) * z0 ≤ cap * z0 := Nat.mul_le_mul_right _ (by omega)
                rw [Nat.add_mul] at this; omega
              refine ⟨_, hrun q1 (by omega), ?_⟩
              obtain ⟨hcl, hcv⟩ := SC.setElem_len hset
              have hsz : (spliceA arr (n * z0 + off) v1.cells.toList).size = arr.size := spliceA_size (by omega)
              have hst : ∀ o, (Blk.row true z0 c).stab o → (Blk.row true z0 c').stab o ∧ (spliceA arr (n * z0 + off) v1.cells.toList)[o]? = arr[o]? := fun o h => by cases h.1
              have hlk : (Blk.row true z0 c).like (.row true z0 c') := ⟨rfl, hcl.symm⟩
              have hT' := Tr.write (N := N) hR hb hbb q1 hsz hlk hst
              have hll : l.length = i.size := by rw [stat1L_len hst1, hlen]
              have hlr := stat1L_rep hR (Soft.refl H) (f := fun k => v1.cells.getD k undef) hc2 hst1 (fun p hp => by cases hp)
              have hbl : BlkRel F β N (updH H id (some (.row true z0 c'))) (w.setRow b (spliceA arr (n * z0 + off) v1.cells.toList)) id (.row true z0 c') := by
                refine ⟨⟨hz, by rw [hcv]; exact hv, fun j e' hj => ?_⟩, .inr ⟨b, cap, hbb, h2, _, T', setRow_heap w b arr _ T' (0, 0) q1, by rw [hsz, q2], q3, by rw [hcv]; exact q4, by rw [hcl]; exact q5, fun j e' hj => ?_, fun j e' k x hj hk => ?_⟩⟩
                · rw [SC.setElem_elem hset hlt] at hj
                  by_cases hjn : j = n
                  · rw [if_pos hjn] at hj; cases hj; simp [splice]; omega
                  · rw [if_neg hjn] at hj; exact hl j e' hj
                · rw [SC.setElem_elem hset hlt] at hj
                  by_cases hjn : j = n
                  · rw [if_pos hjn] at hj; cases hj; simp [splice]; omega
                  · rw [if_neg hjn] at hj; exact hl j e' hj
                · have e1 := spliceA_get (arr := arr) (off := n * z0 + off) (vs := v1.cells.toList) (by omega) (j * z0 + k)
                  rw [hlenc] at e1
                  rw [SC.setElem_elem hset hlt] at hj
                  by_cases hjn : j = n
                  · subst hjn
                    rw [if_pos rfl] at hj; cases hj
                    rw [splice_get (by omega), hll] at hk
                    by_cases k1 : k < off
                    · rw [if_pos k1] at hk
                      rw [if_pos (by omega)] at e1
                      rw [getD_congr e1]
                      exact (q7 j e k x he hk).mono hT'.mv (Mem.le_refl _)
                    · by_cases k2 : k < off + i.size
                      · rw [if_neg k1, if_pos k2] at hk
                        rw [if_neg (by omega), if_pos (by omega)] at e1
                        rw [getD_congr (b := v1.cells) (l := k - off) (by rw [e1, show j * z0 + k - (j * z0 + off) = k - off by omega]; simp)]
                        exact ((hlr _ x hk).flat (flats_get hfl _ x hk)).mono hT'.mv (Mem.le_refl _)
                      · rw [if_neg k1, if_neg k2] at hk
                        rw [if_neg (by omega), if_neg (by omega)] at e1
                        rw [getD_congr e1]
                        exact (q7 j e k x he hk).mono hT'.mv (Mem.le_refl _)
                  · rw [if_neg hjn] at hj
                    have hkz : k < z0 := by
                      have := (List.getElem?_eq_some_iff.1 hk).1
                      rw [hl j e' hj] at this; exact this
                    have e2 : (spliceA arr (n * z0 + off) v1.cells.toList)[j * z0 + k]? = arr[j * z0 + k]? := by
                      rcases Nat.lt_or_gt_of_ne hjn with hlt' | hgt'
                      · have : (j + 1) * z0 ≤ n * z0 := Nat.mul_le_mul_right _ hlt'
                        rw [Nat.add_mul] at this
                        rw [e1, if_pos (by omega)]
                      · have : (n + 1) * z0 ≤ j * z0 := Nat.mul_le_mul_right _ hgt'
                        rw [Nat.add_mul] at this
                        rw [e1, if_neg (by omega), if_neg (by omega)]
                    rw [getD_congr e2]
                    exact (q7 j e' k x hj hk).mono hT'.mv (Mem.le_refl _)
              have hH := HeapRel.write (N := N) hR hb hbb q1 hsz hlk hst hbl
              exact ⟨β, _, _, _, h, hT'.setN, hH.setN, ⟨#[], rfl, rfl, by simp⟩⟩
            · exact h.elim
          · exact h.elim
        · exact h.elim
      · exact h.elim
    · rename_i z' l hb
      split at h
      · rename_i hle
        obtain ⟨hzz, hle⟩ := ble_and hle
        have hle := Nat.le_of_ble_eq_true hle
        have hzz := Nat.eq_of_beq_eq_true hzz
        subst hzz
        obtain ⟨e, he, h⟩ := h
        obtain ⟨_, ⟨hz, hl⟩, hrow⟩ := hR.rel id _ hb
        rcases hrow with ⟨h1, _⟩ | ⟨b', cap, arr, T', h1, h2, q1, q2, q5, q7⟩
        · rw [hbb] at h1; cases h1
        rw [hbb] at h1; cases h1
        have hel := hl n e he
        have hlt := (List.getElem?_eq_some_iff.1 he).1
        have hin : n * z0 + z0 ≤ arr.size := by
          rw [q2]
          have : (n + 1) * z0 ≤ cap * z0 := Nat.mul_le_mul_right _ (by omega)
          rw [Nat.add_mul] at this; omega
        refine ⟨_, hrun q1 (by omega), ?_⟩
        have hsz : (spliceA arr (n * z0 + off) v1.cells.toList).size = arr.size := spliceA_size (by omega)
        have hst : ∀ o, (Blk.rowD z0 l).stab o → (Blk.rowD z0 (l.set n (splice e off y.2))).stab o ∧ (spliceA arr (n * z0 + off) v1.cells.toList)[o]? = arr[o]? := fun o h => h.elim
        have hlk : (Blk.rowD z0 l).like (.rowD z0 (l.set n (splice e off y.2))) := ⟨rfl, (List.length_set ..).symm⟩
        have hT' := Tr.write (N := N) hR hb hbb q1 hsz hlk hst
        have hset : ∀ j, (l.set n (splice e off y.2))[j]? = if j = n then some (splice e off y.2) else l[j]? := by
          intro j
          rw [List.getElem?_set]
          by_cases hjn : j = n
          · subst hjn; simp [hlt]
          · rw [if_neg (fun h => hjn h.symm), if_neg hjn]
        have hbl : BlkRel F β N (updH H id (some (.rowD z0 (l.set n (splice e off y.2))))) (w.setRow b (spliceA arr (n * z0 + off) v1.cells.toList)) id (.rowD z0 (l.set n (splice e off y.2))) := by
          refine ⟨⟨hz, fun j e' hj => ?_⟩, .inr ⟨b, cap, _, T', hbb, h2, setRow_heap w b arr _ T' (0, 0) q1, by rw [hsz, q2], by rw [List.length_set]; exact q5, fun j e' k x hj hk => ?_⟩⟩
          · rw [hset] at hj
            by_cases hjn : j = n
            · rw [if_pos hjn] at hj; cases hj; simp [splice]; omega
            · rw [if_neg hjn] at hj; exact hl j e' hj
          · have e1 := spliceA_get (arr := arr) (off := n * z0 + off) (vs := v1.cells.toList) (by omega) (j * z0 + k)
            rw [hlenc] at e1
            rw [hset] at hj
            by_cases hjn : j = n
            · subst hjn
              rw [if_pos rfl] at hj; cases hj
              rw [splice_get (by omega), hlen] at hk
              by_cases k1 : k < off
              · rw [if_pos k1] at hk
                rw [if_pos (by omega)] at e1
                rw [getD_congr e1]
                exact hT'.repD hR (q7 j e k x he hk)
              · by_cases k2 : k < off + i.size
                · rw [if_neg k1, if_pos k2] at hk
                  rw [if_neg (by omega), if_pos (by omega)] at e1
                  rw [getD_congr (b := v1.cells) (l := k - off) (by rw [e1, show j * z0 + k - (j * z0 + off) = k - off by omega]; simp)]
                  exact hT'.repD hR (hc2 _ x hk)
                · rw [if_neg k1, if_neg k2] at hk
                  rw [if_neg (by omega), if_neg (by omega)] at e1
                  rw [getD_congr e1]
                  exact hT'.repD hR (q7 j e k x he hk)
            · rw [if_neg hjn] at hj
              have hkz : k < z0 := by
                have := (List.getElem?_eq_some_iff.1 hk).1
                rw [hl j e' hj] at this; exact this
              have e2 : (spliceA arr (n * z0 + off) v1.cells.toList)[j * z0 + k]? = arr[j * z0 + k]? := by
                rcases Nat.lt_or_gt_of_ne hjn with hlt' | hgt'
                · have : (j + 1) * z0 ≤ n * z0 := Nat.mul_le_mul_right _ hlt'
                  rw [Nat.add_mul] at this
                  rw [e1, if_pos (by omega)]
                · have : (n + 1) * z0 ≤ j * z0 := Nat.mul_le_mul_right _ hgt'
                  rw [Nat.add_mul] at this
                  rw [e1, if_neg (by omega), if_neg (by omega)]
              rw [getD_congr e2]
              exact hT'.repD hR (q7 j e' k x hj hk)
        have hH := HeapRel.write (N := N) hR hb hbb q1 hsz hlk hst hbl
        exact ⟨β, _, _, _, h, hT'.setN, hH.setN, ⟨#[], rfl, rfl, by simp⟩⟩
      · exact h.elim
    · exact h.elim
  · exact h.elim
end
end Go.Fw
namespace Go.Fw
open Go.RowKit (Below)
section
variable {C : Ctx} {F : Fix} {β : Nat → Option Nat} {N : Nat → Prop} {H : HF} {fid : Nat} {K : OpK} {w w' : World} {P : Program}
theorem MV_le_MR (hG : Globs C F) (_hR : HeapRel F β N H w) : (MV F β H w).le (MR F β H w) := by
  intro b o v h
  unfold MR
  by_cases hb : F.mine b
  · rw [if_pos hb]; exact h
  · rw [if_neg hb]
    unfold MV at h
    rw [if_neg hb] at h
    exact hG.mvr b o v h
theorem Rep.len_zero {mv mr : Mem} {v : Value} {c : SC} (h : Rep mv mr v c) (hv : c.isView = true) : ∃ a cap, v = .slice a c.len cap ∧ c.len ≤ cap := by
  cases h with
  | lit => simp [SC.isView] at hv
  | empty a cap _ h0 => exact ⟨a, cap, by rw [h0], by omega⟩
  | view b o cap z f _ _ _ hcap => exact ⟨_, cap, rfl, hcap⟩
  | ref => simp [SC.isView] at hv
  | err => simp [SC.isView] at hv
  | num => simp [SC.isView] at hv
  | raw => simp [SC.isView] at hv
  | any => simp [SC.isView] at hv
  | fn => simp [SC.isView] at hv
theorem Rep.elem_ptr {mv mr : Mem} (hle : mv.le mr) {v : Value} {c : SC} (h : Rep mv mr v c) (hv : c.isView = true) {n : Nat} {el : List SC} (he : c.elem n = some el) :
    ∃ b o cap, v = .slice (some ⟨b, o, none⟩) c.len cap ∧ Rep mv mr (.pointer (some ⟨b, o + n * el.length, none⟩)) (.ref el) := by
  cases h with
  | lit => simp [SC.isView] at hv
  | empty a cap _ h0 => have := SC.elem_lt he; omega
  | view b o cap z f _ hpos hz hcap hl hc hr =>
    have hz' := hl n el he
    subst hz'
    refine ⟨b, o, cap, rfl, .ref b _ (fun k => f (n * el.length + k)) (fun k hk => ?_) fun k x hx => (hr n el k x he hx).mono (Mem.le_refl _) (nomem_le _)⟩
    have hlt := SC.elem_lt he
    rw [Nat.add_assoc]
    refine hle _ _ _ (hc _ ?_)
    have : (n + 1) * el.length ≤ c.len * el.length := Nat.mul_le_mul_right _ hlt
    rw [Nat.add_mul] at this; omega
  | ref => simp [SC.isView] at hv
  | err => simp [SC.isView] at hv
  | num => simp [SC.isView] at hv
  | raw => simp [SC.isView] at hv
  | any => simp [SC.isView] at hv
  | fn => simp [SC.isView] at hv
theorem indexAddr_ok (hC : C.Ok) (hG : Globs C F) (hR : HeapRel F β N H w) {T : TypeId} {x y : DX} {v0 v1 : Value} (hx : RepDX F β N H w v0 x) (hy : RepDX F β N H w v1 y) (h : indexAddrA C T x y H K) :
    ∃ v, (Instr.indexAt T v0 v1).run C.P w = .ok v w ∧ Post F β N H fid K w v w := by
  unfold indexAddrA at h
  split at h
  · exact h.elim
  rename_i i hi
  obtain ⟨tf, d, z, hT⟩ := hC.get hi
  split at h
  · rename_i e k n hcls
    have hd := cls_slice (hT.cls.trans hcls)
    obtain ⟨rfl, _⟩ := hy.one_inv.lit_inv
    split at h
    · exact h.elim
    rename_i ie hie
    obtain ⟨ef, ed, ez, hE⟩ := hC.get hie
    have hrun : ∀ (b o len cap : Nat), 0 ≤ n → n.toNat < len → (Instr.indexAt T (.slice (some ⟨b, o, none⟩) len cap) (.int k n)).run C.P w = .ok (.pointer (some ⟨b, o + n.toNat * ie.size, none⟩)) w := by
      intro b o len cap h0 h1
      have h2 : 0 ≤ n ∧ n < (len : Int) := ⟨h0, by omega⟩
      simp [Instr.indexAt, asIntOf, hT.run_und, hd, h2, hE.run_size, addr_add]
    split at h
    · rename_i id
      obtain ⟨hn, _, hp⟩ := hx.one_inv
      split at h
      · rename_i m z0 c hb
        split at h
        · rename_i hz
          have hz := Nat.eq_of_beq_eq_true hz
          obtain ⟨⟨h0, h1⟩, h⟩ := h
          rcases hp _ z0 c.len hb rfl with ⟨_, h2, _⟩ | ⟨b, cap, arr, T', hbb, rfl, _, _⟩
          · omega
          · refine ⟨_, hrun b 0 c.len cap h0 (by omega), Post.pure hR h (repOne ⟨hn, b, hbb, ?_⟩)⟩
            rw [hz, Nat.zero_add, Nat.add_zero]
        · exact h.elim
      · rename_i z0 l hb
        split at h
        · rename_i hz
          have hz := Nat.eq_of_beq_eq_true hz
          obtain ⟨⟨h0, h1⟩, h⟩ := h
          rcases hp _ z0 l.length hb rfl with ⟨_, h2, _⟩ | ⟨b, cap, arr, T', hbb, rfl, _, _⟩
          · omega
          · refine ⟨_, hrun b 0 l.length cap h0 (by omega), Post.pure hR h (repOne ⟨hn, b, hbb, ?_⟩)⟩
            rw [hz, Nat.zero_add, Nat.add_zero]
        · exact h.elim
      · exact h.elim
    · rename_i c
      split at h
      · rename_i hv
        obtain ⟨h0, el, he, hlen, h⟩ := h
        obtain ⟨b, o, cap, rfl, hr⟩ := Rep.elem_ptr (MV_le_MR hG hR) hx.one_inv hv he
        refine ⟨_, hrun b o c.len cap h0 (SC.elem_lt he), Post.pure hR h (repOne ?_)⟩
        rw [← hlen]; exact hr
      · exact h.elim
    · exact h.elim
  · rename_i len e k n hcls
    have hd := cls_array (hT.cls.trans hcls)
    obtain ⟨rfl, _⟩ := hy.one_inv.lit_inv
    split at h
    · exact h.elim
    rename_i ie hie
    obtain ⟨ef, ed, ez, hE⟩ := hC.get hie
    have hrun : ∀ (b o : Nat), 0 ≤ n → n < (len : Int) → (Instr.indexAt T (.pointer (some ⟨b, o, none⟩)) (.int k n)).run C.P w = .ok (.pointer (some ⟨b, o + n.toNat * ie.size, none⟩)) w := by
      intro b o h0 h1
      have h2 : 0 ≤ n ∧ n < (len : Int) := ⟨h0, h1⟩
      simp [Instr.indexAt, asIntOf, hT.run_und, hd, h2, hE.run_size, addr_add, Instr.sureAddr]
    split at h
    · rename_i id off
      obtain ⟨hn, b, hbb, rfl⟩ := hx.one_inv
      obtain ⟨⟨h0, h1⟩, h⟩ := h
      exact ⟨_, hrun b off h0 h1, Post.pure hR h (repOne ⟨hn, b, hbb, rfl⟩)⟩
    · rename_i cs
      obtain ⟨b, o, rfl⟩ := ref_ptr hx.one_inv
      obtain ⟨⟨h0, h1⟩, h⟩ := h
      exact ⟨_, hrun b o h0 h1, Post.pure hR h (repOne (clamp_drop hx.one_inv _))⟩
    · exact h.elim
  · exact h.elim
theorem run_part {t : TypeId} {i : TI} {tf : TypeInfo} {d : TypeDesc} {z : Value} (hT : TOk P t i tf d z) {arr : Array Value} {off : Nat} (hle : off + i.size ≤ arr.size) (hs : (clsAg i.cls || Nat.beq i.size 1) = true) :
    (part t arr off).run P w = .ok (aggOf (clsAg i.cls) i.size fun k => arr.getD (off + k) undef) w := by
  unfold part aggOf
  simp only [Sem.run_bind, hT.run_isAgg, Result.andThen_ok]
  cases hag : clsAg i.cls
  · simp only [hag, Bool.false_or] at hs
    have h1 : i.size = 1 := Nat.eq_of_beq_eq_true hs
    have hlt : off < arr.size := by omega
    simp [hlt, Array.getD]
  · simp only [if_true, Sem.run_bind, hT.run_size, Result.andThen_ok, Sem.run_pure]
    congr 2
    apply Array.ext
    · simp; omega
    · intro k h1 h2
      have : off + k < arr.size := by simp at h2; omega
      simp [Array.getD, this]
theorem part_ok (hR : HeapRel F β N H w) {t : TypeId} {i : TI} {tf : TypeInfo} {d : TypeDesc} {z : Value} (hT : TOk P t i tf d z) {arr : Array Value} {cs : List DC} {off : Nat}
    (hsz : arr.size = cs.length) (hcs : ∀ k c, cs[k]? = some c → RepD F β N H w (arr.getD k undef) c) (h : partA i cs off K) :
    ∃ v, (part t arr off).run P w = .ok v w ∧ Post F β N H fid K w v w := by
  unfold partA at h
  split at h
  · rename_i hle
    obtain ⟨hle, hs⟩ := ble_and hle
    have hle := Nat.le_of_ble_eq_true hle
    exact ⟨_, run_part hT (by omega) hs, Post.pure hR h (repDX_part (f := fun k => arr.getD k undef) hcs hle hs)⟩
  · exact h.elim
theorem index_ok (hC : C.Ok) (hR : HeapRel F β N H w) {T : TypeId} {x y : DX} {v0 v1 : Value} (hx : RepDX F β N H w v0 x) (hy : RepDX F β N H w v1 y) (h : indexA C T x y K) :
    ∃ v, (Instr.index T v0 v1).run C.P w = .ok v w ∧ Post F β N H fid K w v w := by
  unfold indexA at h
  split at h
  · exact h.elim
  rename_i i hi
  obtain ⟨tf, d, z, hT⟩ := hC.get hi
  split at h
  · rename_i len e k n hcls
    have hd := cls_array (hT.cls.trans hcls)
    obtain ⟨rfl, _⟩ := hy.one_inv.lit_inv
    split at h
    · exact h.elim
    rename_i ie hie
    obtain ⟨ef, ed, ez, hE⟩ := hC.get hie
    split at h
    · rename_i cs
      obtain ⟨arr, rfl, h2, h3⟩ := hx.agg_inv
      obtain ⟨h0, h⟩ := h
      obtain ⟨v, hr, hp⟩ := part_ok (fid := fid) hR hE h2 h3 h
      refine ⟨v, ?_, hp⟩
      simp [Instr.index, asIntOf, hT.run_und, hd, h0, hE.run_size, hr]
    · exact h.elim
  · rename_i k n hcls
    have hd := cls_str (hT.cls.trans hcls)
    obtain ⟨rfl, _⟩ := hy.one_inv.lit_inv
    split at h
    · rename_i s
      obtain ⟨rfl, _⟩ := hx.one_inv.lit_inv
      obtain ⟨h0, b, hb, h⟩ := h
      refine ⟨_, ?_, Post.pure hR h (repLit rfl)⟩
      simp [Instr.index, asIntOf, hT.run_und, hd, h0, hb]
    · exact h.elim
  · exact h.elim
theorem field_ok (hC : C.Ok) (hR : HeapRel F β N H w) {T : TypeId} {x : DX} {v0 : Value} {n : Nat} (hx : RepDX F β N H w v0 x) (h : fieldA C T x n K) :
    ∃ v, (Instr.field T v0 n).run C.P w = .ok v w ∧ Post F β N H fid K w v w := by
  unfold fieldA at h
  split at h
  · exact h.elim
  rename_i i hi
  obtain ⟨tf, d, z, hT⟩ := hC.get hi
  split at h
  · rename_i fs hcls
    obtain ⟨gs, hd, hgs⟩ := cls_struct (hT.cls.trans hcls)
    split at h
    · rename_i o ft hfs
      split at h
      · rename_i fi hfi
        obtain ⟨ff, fd, fz, hF⟩ := hC.get hfi
        rw [← hgs, List.getElem?_map] at hfs
        cases hg : gs.toList[n]? with
        | none => simp [hg] at hfs
        | some g =>
          simp [hg] at hfs
          obtain ⟨ho, hft⟩ := hfs
          have hg' : gs[n]? = some g := by simpa using hg
          split at h
          · rename_i cs
            obtain ⟨arr, rfl, h2, h3⟩ := hx.agg_inv
            obtain ⟨v, hr, hp⟩ := part_ok (fid := fid) hR hF h2 h3 h
            refine ⟨v, ?_, hp⟩
            simp [Instr.field, hT.run_und, hd, hg', asAgg, hft, ho, hr]
          · exact h.elim
      · exact h.elim
    · exact h.elim
  · exact h.elim
theorem Below.alloc1 (w : World) (o : Obj) : Below w.heap.size w (w.alloc o) := (Below.refl _ _).alloc (Nat.le_refl _) o
theorem alloc_at (w : World) (o : Obj) : (w.alloc o).heap[w.heap.size]? = some o := by
  show (w.heap.push o)[w.heap.size]? = some o
  simp
theorem Post.new {u : Hp} (hR1 : HeapRel F β N (u.on H) w) (t1 : Tr F β N H w β N (u.on H) w) (hf : ¬ N fid) {blk : Blk} {R : List Nat} {r : DV} {v : Value} {b : Option Nat} (hw : Below w.heap.size w w') (hb : ∀ x, b = some x → w.heap.size ≤ x)
    (hK : K r ((fid, some blk) :: u) R)
    (hrel : ∀ (H1 : HF), H1 = updH (u.on H) fid (some blk) → Tr F β N H w (setB β fid b) (setN N fid) H1 w' → Tr F β N (u.on H) w (setB β fid b) (setN N fid) H1 w' → BlkRel F (setB β fid b) (setN N fid) H1 w' fid blk)
    (hv : ∀ (H1 : HF), H1 = updH (u.on H) fid (some blk) → RepDV F (setB β fid b) (setN N fid) H1 w' v r) : Post F β N H fid K w v w' := by
  have t2 := Tr.new hR1 hw hf b hb blk
  have t := t1.trans t2
  exact ⟨_, r, _, R, hK, t, HeapRel.new hR1 hw hf b hb blk (hrel _ rfl t t2), hv _ rfl⟩
theorem zc_ok {v : Value} {d : DC} (h : (zcOf v).dyn = some d) : RepD F β N H w v d := by
  unfold zcOf at h
  split at h
  · simp [ZC.dyn] at h; subst h; rfl
  · simp only [ZC.dyn] at h
    split at h
    · rename_i hp; simp at h; subst h; exact .lit hp
    · cases h
theorem zeros_ok : ∀ {zs : List Value} {cs : List DC}, zeros (zs.map zcOf) = some cs → cs.length = zs.length ∧ ∀ (k : Nat) (c : DC), cs[k]? = some c → ∃ v, zs[k]? = some v ∧ (zcOf v).dyn = some c
  | [], cs, h => by simp [zeros] at h; subst h; simp
  | z :: zs, cs, h => by
    simp only [List.map_cons, zeros] at h
    split at h
    · rename_i d hd
      split at h
      · rename_i ds hds
        simp at h; subst h
        obtain ⟨h1, h2⟩ := zeros_ok hds
        refine ⟨by simp [h1], fun k c hk => ?_⟩
        cases k with
        | zero => simp at hk; subst hk; exact ⟨z, rfl, hd⟩
        | succ k => exact h2 k c (by simpa using hk)
      · cases h
    · cases h
theorem alloc_ok (hC : C.Ok) (hR : HeapRel F β N H w) (hf : ¬ N fid) {T : TypeId} {i : TI} {cs : List DC} {v0 : Value} (hi : C.ti T = some i) (hz : zeros i.zero = some cs) (h : K (one (.ptr fid 0)) [(fid, some (.box T cs))] []) :
    ∃ v w', (Instr.alloc T true v0).run C.P w = .ok v w' ∧ Post F β N H fid K w v w' := by
  obtain ⟨tf, d, z, hT⟩ := hC.get hi
  rw [← hT.zeroc] at hz
  obtain ⟨hl, hc⟩ := zeros_ok hz
  refine ⟨.pointer (some ⟨w.heap.size, 0, none⟩), w.alloc (.cells z.cells T), by simp [Instr.alloc, hT.run_zero, newVar, newRow], ?_⟩
  refine Post.new (u := []) (b := some w.heap.size) hR Tr.refl hf (Below.alloc1 w _) (by simp) h (fun H1 _ t _ => ?_) (fun H1 _ => repOne ⟨.inr rfl, w.heap.size, by simp [setB], rfl⟩)
  refine ⟨w.heap.size, z.cells, T, by simp [setB], Fix.mine_new hR.below.size, alloc_at w _, by simpa using hl.symm, fun k c hk => ?_⟩
  obtain ⟨v, h1, h2⟩ := hc k c hk
  rw [getD_of (by simpa using h1)]
  exact zc_ok h2
theorem box_ok (hR : HeapRel F β N H w) (hf : ¬ N fid) {T : TypeId} {x : DX} {v0 : Value} (hx : RepDX F β N H w v0 x) (h : K (one (.ptr fid 0)) [(fid, some (.box T x.2))] []) :
    ∃ v w', (Instr.box T v0).run C.P w = .ok v w' ∧ Post F β N H fid K w v w' := by
  obtain ⟨h1, h2⟩ := hx.cells
  refine ⟨.pointer (some ⟨w.heap.size, 0, none⟩), w.alloc (.cells v0.cells T), by simp [Instr.box, newVar, newRow], ?_⟩
  refine Post.new (u := []) (b := some w.heap.size) hR Tr.refl hf (Below.alloc1 w _) (by simp) h (fun H1 _ t _ => ?_) (fun H1 _ => repOne ⟨.inr rfl, w.heap.size, by simp [setB], rfl⟩)
  exact ⟨w.heap.size, v0.cells, T, by simp [setB], Fix.mine_new hR.below.size, alloc_at w _, h1, fun k c hk => t.repD hR (h2 k c hk)⟩
theorem foldl_set (off : Nat) : ∀ (l : List Value) (j : Nat) (cs : Array Value), off + j + l.length ≤ cs.size →
    (l.zipIdx j).foldl (fun cs (p : Value × Nat) => cs.setIfInBounds (off + p.2) p.1) cs = spliceA cs (off + j) l
  | [], j, cs, _ => by simp [spliceA]
  | v :: l, j, cs, h => by
    simp only [List.zipIdx_cons, List.foldl_cons]
    rw [foldl_set off l (j + 1) _ (by simp at h ⊢; omega)]
    unfold spliceA
    congr 1
    have e := list_seg_step cs.toList (off + j) v l (by simp at h ⊢; omega)
    simpa [Array.toList_setIfInBounds, Nat.add_assoc] using e
theorem fill_ok {place place' : Nat → Option (Nat × Nat)} (hpp : ∀ n x, place n = some x → place' n = some x) : ∀ {parts : List (Nat × Value)} {ps : List (Nat × Option DV)} {arr : Array Value} {cells : List DC} {cs : List DC}, parts.length = ps.length →
    (∀ (k : Nat) (p : Nat × Value) (q : Nat × Option DV), parts[k]? = some p → ps[k]? = some q → p.1 = q.1 ∧ ∀ d, q.2 = some d → RepDV F β N H w p.2 d) → arr.size = cells.length → (∀ (k : Nat) (c : DC), cells[k]? = some c → RepD F β N H w (arr.getD k undef) c) →
    fillD place cells ps = some cs → ∃ arr', Instr.fill place' arr parts = some arr' ∧ arr'.size = cs.length ∧ ∀ (k : Nat) (c : DC), cs[k]? = some c → RepD F β N H w (arr'.getD k undef) c
  | [], [], arr, cells, cs, _, _, hs, hc, h => by
    simp [fillD] at h; subst h
    exact ⟨arr, rfl, hs, hc⟩
  | [], _ :: _, _, _, _, h, _, _, _, _ => by simp at h
  | _ :: _, [], _, _, _, h, _, _, _, _ => by simp at h
  | (i, v) :: parts, (j, d) :: ps, arr, cells, cs, hl, hp, hs, hc, h => by
    obtain ⟨hij, hd⟩ := hp 0 _ _ rfl rfl
    simp at hij; subst hij
    unfold fillD at h
    split at h
    · rename_i heq; cases heq
    · rename_i n x rest heq
      cases heq
      have hx : RepDX F β N H w v x := hd _ rfl
      obtain ⟨c1, c2⟩ := hx.cells
      split at h
      · rename_i off size hpl
        split at h
        · rename_i hle
          obtain ⟨hl1, hle⟩ := ble_and hle
          have hl1 := Nat.eq_of_beq_eq_true hl1
          have hle := Nat.le_of_ble_eq_true hle
          have hlc : v.cells.toList.length = x.2.length := by simpa using c1
          have hfold : v.cells.zipIdx.foldl (fun cs (p : Value × Nat) => cs.setIfInBounds (off + p.2) p.1) arr = spliceA arr off v.cells.toList := by
            have := foldl_set off v.cells.toList 0 arr (by rw [hlc]; omega)
            rw [Nat.add_zero] at this
            rw [← this, ← Array.foldl_toList]
            simp
          have hrec := fill_ok hpp (parts := parts) (ps := ps) (arr := spliceA arr off v.cells.toList) (cells := splice cells off x.2) (cs := cs) (by simpa using hl)
            (fun k p q h1 h2 => hp (k + 1) p q (by simpa using h1) (by simpa using h2)) (by rw [spliceA_size (by rw [hlc]; omega), hs]; simp [splice]; omega) (fun k c hk => ?_) h
          · obtain ⟨arr', e1, e2, e3⟩ := hrec
            refine ⟨arr', ?_, e2, e3⟩
            have g1 : ¬ (v.cells.size ≠ size) := by omega
            have g2 : ¬ (off + v.cells.size > arr.size) := by omega
            simp only [Instr.fill, hpp _ _ hpl, g1, g2, decide_false, Bool.or_false, Bool.false_eq_true, if_false]
            rw [← e1, ← hfold]
          · have e := spliceA_get (arr := arr) (off := off) (vs := v.cells.toList) (by rw [hlc]; omega) k
            rw [hlc] at e
            rw [splice_get (by omega)] at hk
            by_cases k1 : k < off
            · simp only [k1, if_true] at hk e
              rw [getD_congr e]
              exact hc k c hk
            · by_cases k2 : k < off + x.2.length
              · simp only [k1, if_false, k2, if_true] at hk e
                rw [getD_congr (b := v.cells) (l := k - off) (by rw [e]; simp)]
                exact c2 _ c hk
              · simp only [k1, if_false, k2] at hk e
                rw [getD_congr e]
                exact hc k c hk
        · cases h
      · cases h
    · cases h
end
end Go.Fw
namespace Go.Fw
open Go.RowKit (Below)
section
variable {C : Ctx} {F : Fix} {β : Nat → Option Nat} {N : Nat → Prop} {H : HF} {fid : Nat} {K : OpK} {w w' : World} {P : Program}
theorem run_mapM_list {α γ : Type} {g : α → Sem γ} {h : α → γ} : ∀ {l : List α}, (∀ x ∈ l, (g x).run P w = .ok (h x) w) → (l.mapM g).run P w = .ok (l.map h) w
  | [], _ => by simp
  | x :: l, hl => by
    have h1 := hl x (by simp)
    have h2 := run_mapM_list (l := l) fun y hy => hl y (by simp [hy])
    simp [h1, h2]
theorem run_mapM {α γ : Type} {g : α → Sem γ} {h : α → γ} {l : Array α} (hl : ∀ x ∈ l.toList, (g x).run P w = .ok (h x) w) : (l.mapM g).run P w = .ok (l.map h) w := by
  rw [Array.mapM_eq_mapM_toList, Sem.run_map, run_mapM_list hl]
  simp
  apply Array.ext'
  simp
theorem parts_ok (hG : Globs C F) (hR : HeapRel F β N H w) {E : EF} {a : Act} (hE : EnvRel F β N H w E a) (parts : Array (Nat × Operand)) :
    ((parts.map fun p => (p.1, a.eval p.2)).toList.length = (parts.toList.map fun p => (p.1, C.ev E p.2)).length) ∧
    ∀ (k : Nat) (p : Nat × Value) (q : Nat × Option DV), (parts.map fun p => (p.1, a.eval p.2)).toList[k]? = some p → (parts.toList.map fun p => (p.1, C.ev E p.2))[k]? = some q →
      p.1 = q.1 ∧ ∀ d, q.2 = some d → RepDV F β N H w p.2 d := by
  refine ⟨by simp, fun k p q hp hq => ?_⟩
  simp at hp hq
  obtain ⟨i, x, hx, rfl⟩ := hp
  obtain ⟨i', x', hx', rfl⟩ := hq
  rw [hx] at hx'; cases hx'
  exact ⟨rfl, fun d hd => ev_ok hG hR hE hd⟩
theorem build_ok (hC : C.Ok) (hG : Globs C F) (hR : HeapRel F β N H w) {E : EF} {a : Act} (hE : EnvRel F β N H w E a) {o : Oper} {T : TypeId} {parts : Array (Nat × Operand)} (ho : o.op = .build T parts)
    (h : opA C fid o (C.ev E) H K) : ∃ v, (Instr.build T (parts.map fun p => (p.1, a.eval p.2))).run C.P w = .ok v w ∧ Post F β N H fid K w v w := by
  unfold opA at h
  rw [ho] at h
  simp only at h
  obtain ⟨hl, hp⟩ := parts_ok hG hR hE parts
  split at h
  · rename_i i hi
    obtain ⟨tf, d, z, hT⟩ := hC.get hi
    split at h
    · rename_i zs hz
      rw [← hT.zeroc] at hz
      obtain ⟨z1, z2⟩ := zeros_ok hz
      have hz3 : ∀ (k : Nat) (c : DC), zs[k]? = some c → RepD F β N H w (z.cells.getD k undef) c := by
        intro k c hk
        obtain ⟨v, h1, h2⟩ := z2 k c hk
        rw [getD_of (by simpa using h1)]
        exact zc_ok h2
      have hz4 : z.cells.size = zs.length := by simpa using z1.symm
      split at h
      · rename_i fs hcls
        obtain ⟨gs, hd, hgs⟩ := cls_struct (hT.cls.trans hcls)
        split at h
        · rename_i cs hfill
          have hmap : (gs.mapM fun f => do pure (f.offset, ← sizeOf f.type) : Sem _).run C.P w = .ok (gs.map fun f => (f.offset, C.P.cellsOf f.type)) w := by
            refine run_mapM fun f hf => ?_
            have := hT.fields gs hd f hf
            obtain ⟨fi, hfi⟩ := Option.isSome_iff_exists.1 this
            simp [sizeOf, typeInfo, hfi, Program.cellsOf]
          obtain ⟨arr', e1, e2, e3⟩ := fill_ok (place' := ((gs.map fun f => (f.offset, C.P.cellsOf f.type))[·]?)) (by
            intro n x hx
            split at hx
            · rename_i o ft hfs
              rw [← hgs, List.getElem?_map] at hfs
              cases hg : gs.toList[n]? with
              | none => simp [hg] at hfs
              | some g =>
                simp [hg] at hfs
                obtain ⟨h1, h2⟩ := hfs
                split at hx
                · rename_i fi hfi
                  simp at hx; subst hx
                  obtain ⟨ff, fd, fz, hF⟩ := hC.get hfi
                  have hg' : gs[n]? = some g := by simpa using hg
                  simp [hg', Program.cellsOf, h2, h1, hF.info, hF.size]
                · cases hx
            · cases hx) hl hp hz4 hz3 hfill
          refine ⟨.agg arr', ?_, Post.pure hR h ⟨arr', rfl, e2, e3⟩⟩
          simp only [Instr.build, Sem.run_bind, hT.run_zero, Result.andThen_ok, hT.run_und, hd, hmap]
          rw [e1]; rfl
        · exact h.elim
      · rename_i n e hcls
        have hd := cls_array (hT.cls.trans hcls)
        split at h
        · rename_i ie hie
          obtain ⟨ef, ed, ez, hE'⟩ := hC.get hie
          split at h
          · rename_i cs hfill
            obtain ⟨arr', e1, e2, e3⟩ := fill_ok (fun _ _ h => h) hl hp hz4 hz3 hfill
            refine ⟨.agg arr', ?_, Post.pure hR h ⟨arr', rfl, e2, e3⟩⟩
            simp only [Instr.build, Sem.run_bind, hT.run_zero, Result.andThen_ok, hT.run_und, hd, hE'.run_size]
            rw [e1]; rfl
          · exact h.elim
        · exact h.elim
      · exact h.elim
    · exact h.elim
  · exact h.elim
theorem intBin_ok {op : BinOp} {k : IntKind} {a b : Int} {K' : Value → Prop} (h : intBin op k a b K') (hs : op ≠ .shl) (hs' : op ≠ .shr) (T : TypeId) :
    ∃ v, (binOp op T (.int k a) (.int k b)).run P w = .ok v w ∧ plain v = true ∧ K' v := by
  cases op <;> simp only [intBin] at h <;> first
    | exact (hs rfl).elim
    | exact (hs' rfl).elim
    | exact h.elim
    | (refine ⟨_, ?_, ?_, h⟩ <;> simp [binOp, Op.intArith, Op.intBits, Op.intCmp, plain]; done)
    | (obtain ⟨h0, h⟩ := h; refine ⟨_, ?_, ?_, h⟩ <;> simp [binOp, Op.intDiv, h0, plain]; done)
    | skip
theorem strBin_ok {op : BinOp} {a b : ByteArray} {K' : Value → Prop} (h : strBin op a b K') (T : TypeId) :
    ∃ v, (binOp op T (.string a) (.string b)).run P w = .ok v w ∧ plain v = true ∧ K' v := by
  cases op <;> simp only [strBin] at h <;> first
    | exact h.elim
    | (refine ⟨_, ?_, ?_, h⟩ <;> simp [binOp, Op.stringOp, plain]; done)
    | (obtain ⟨h0, h⟩ := h
       refine ⟨_, ?_, ?_, h⟩
       · have h1 : ¬ (((a.size + b.size : Nat) : Int) > IntKind.i64.max) := by
           rw [IntKind.max_i64]; have : (2:Nat) ^ 40 = 1099511627776 := by decide
           omega
         simp only [binOp, Op.stringOp, h1, if_false]; rfl
       · rfl)
    | skip
theorem litBin_ok {op : BinOp} {x y : Value} {K' : Value → Prop} (h : litBin op x y K') (T : TypeId) :
    ∃ v, (binOp op T x y).run P w = .ok v w ∧ plain v = true ∧ K' v := by
  unfold litBin at h
  split at h
  · rename_i k a k' b
    split at h
    · obtain ⟨h0, h⟩ := h
      have h1 : ¬ b < 0 := by omega
      refine ⟨_, ?_, ?_, h⟩
      · simp [binOp, Op.shift, h1]
      · rfl
    · obtain ⟨h0, h⟩ := h
      have h1 : ¬ b < 0 := by omega
      refine ⟨_, ?_, ?_, h⟩
      · simp [binOp, Op.shift, h1]
      · rfl
    · rename_i hs hs'
      split at h
      · rename_i hk
        simp at hk; subst hk
        exact intBin_ok h (by rintro rfl; exact hs rfl) (by rintro rfl; exact hs' rfl) T
      · exact h.elim
  · exact strBin_ok h T
  · exact h.elim
theorem litEq_ok {t : TypeId} {c : Cls} {a b : Value} {p : Bool} {d : TypeDesc} {n : Nat} (h : litEq c a b = some p) (hu : P.underlying t = some d) (hd : clsOf d = c) : (Op.equalIn (n + 1) t a b).run P w = .ok p w := by
  unfold litEq at h
  split at h
  · split at h
    · rename_i k1 a k2 b hk
      simp at hk; subst hk
      simp at h; subst h
      have := cls_int hd; subst this
      simp [Op.equalIn, run_underlying hu]
    · cases h
  · simp at h; subst h
    have := cls_bool hd; subst this
    simp [Op.equalIn, run_underlying hu]
  · simp at h; subst h
    have := cls_str hd; subst this
    simp [Op.equalIn, run_underlying hu]
  · cases h
def eqVals : List Cls → List Value → List Value → Option Bool
  | [], [], [] => some true
  | c :: cs, a :: xs, b :: ys => match litEq c a b with
    | some p => match eqVals cs xs ys with
      | some q => some (p && q)
      | none => none
    | none => none
  | _, _, _ => none
theorem eqVals_append : ∀ {l1 l2 : List Cls} {x1 y1 x2 y2 : List Value} {p : Bool}, x1.length = l1.length → y1.length = l1.length → eqVals (l1 ++ l2) (x1 ++ x2) (y1 ++ y2) = some p →
    ∃ a b, eqVals l1 x1 y1 = some a ∧ eqVals l2 x2 y2 = some b ∧ p = (a && b)
  | [], l2, x1, y1, x2, y2, p, h1, h2, h => by
    have : x1 = [] := List.length_eq_zero_iff.1 h1
    have : y1 = [] := List.length_eq_zero_iff.1 h2
    subst x1; subst y1
    exact ⟨true, p, rfl, h, by simp⟩
  | c :: l1, l2, x :: x1, y :: y1, x2, y2, p, h1, h2, h => by
    simp only [List.cons_append, eqVals] at h
    split at h
    · rename_i p0 hp0
      split at h
      · rename_i q0 hq0
        simp at h; subst h
        obtain ⟨a, b, e1, e2, rfl⟩ := eqVals_append (by simpa using h1) (by simpa using h2) hq0
        exact ⟨p0 && a, b, by simp [eqVals, hp0, e1], e2, by simp [Bool.and_assoc]⟩
      · cases h
    · cases h
  | c :: l1, l2, [], y1, x2, y2, p, h1, h2, h => by simp at h1
  | c :: l1, l2, x :: x1, [], x2, y2, p, h1, h2, h => by simp at h2
def cut (arr : Array Value) (off n : Nat) : List Value := (arr.toList.drop off).take n
theorem cut_append (arr : Array Value) (off m n : Nat) : cut arr off (m + n) = cut arr off m ++ cut arr (off + m) n := by
  unfold cut
  rw [List.take_add, List.drop_drop]
theorem cut_len {arr : Array Value} {off n : Nat} (h : off + n ≤ arr.size) : (cut arr off n).length = n := by
  simp [cut]; omega
def EqOk (P : Program) (w : World) (m : Nat) (t : TypeId) (l : List Cls) : Prop :=
  ∀ (xs ys : Array Value) (off : Nat) (p : Bool), off + l.length ≤ xs.size → off + l.length ≤ ys.size → eqVals l (cut xs off l.length) (cut ys off l.length) = some p →
    ∃ a b, (part t xs off).run P w = .ok a w ∧ (part t ys off).run P w = .ok b w ∧ (Op.equalIn m t a b).run P w = .ok p w
def foldStep (P : Program) (n : Nat) (acc : Option (List Cls)) (f : Field) : Option (List Cls) :=
  match acc with
  | none => none
  | some l => match f.name != "_" && f.offset == l.length, leaves P n f.type with
    | true, some l' => some (l ++ l')
    | _, _ => none
theorem foldStep_none (P : Program) (n : Nat) (fs : List Field) : fs.foldl (foldStep P n) none = none := by
  induction fs with
  | nil => rfl
  | cons f fs ih => simpa [foldStep] using ih
theorem eqFields_ok {n m : Nat} (ih : ∀ t l, leaves P n t = some l → EqOk P w m t l) : ∀ (fs : List Field) (l0 l : List Cls), fs.foldl (foldStep P n) (some l0) = some l →
    ∃ l1, l = l0 ++ l1 ∧ ∀ (xs ys : Array Value) (p : Bool), l.length ≤ xs.size → l.length ≤ ys.size → eqVals l1 (cut xs l0.length l1.length) (cut ys l0.length l1.length) = some p →
      (Op.eqFields m xs ys fs).run P w = .ok p w
  | [], l0, l, h => by
    simp at h; subst h
    refine ⟨[], by simp, fun xs ys p _ _ hp => ?_⟩
    simp [cut, eqVals] at hp
    subst hp; rfl
  | f :: fs, l0, l, h => by
    simp only [List.foldl_cons] at h
    cases hst : foldStep P n (some l0) f with
    | none => rw [hst, foldStep_none] at h; cases h
    | some l2 =>
      rw [hst] at h
      obtain ⟨l1, rfl, hl⟩ := eqFields_ok ih fs l2 l h
      simp only [foldStep] at hst
      split at hst
      · rename_i l' hname hlv
        simp at hst hname; subst hst
        refine ⟨l' ++ l1, by simp, fun xs ys p hx hy hp => ?_⟩
        have hx' : l0.length + l'.length ≤ xs.size := by simp at hx; omega
        have hy' : l0.length + l'.length ≤ ys.size := by simp at hy; omega
        rw [List.length_append, cut_append, cut_append] at hp
        obtain ⟨a, b, e1, e2, rfl⟩ := eqVals_append (cut_len hx') (cut_len hy') hp
        obtain ⟨u, v, r1, r2, r3⟩ := ih f.type l' hlv xs ys l0.length a hx' hy' e1
        have hrest := hl xs ys b hx hy (by rw [List.length_append]; exact e2)
        have hn : f.name ≠ "_" := hname.1
        have ho : f.offset = l0.length := hname.2
        simp only [Op.eqFields]
        rw [if_pos hn, ho]
        simp only [Sem.run_bind, r1, Result.andThen_ok, r2, r3]
        cases a
        · simp
        · simp [hrest]
      · cases hst
theorem leaves_len {n : Nat} {t : TypeId} {l : List Cls} (h : leaves P n t = some l) : ∃ i d, P.info? t = some i ∧ P.underlying t = some d ∧ i.size = l.length ∧ (clsAg (clsOf d) = false → l = [clsOf d]) := by
  cases n with
  | zero => simp [leaves] at h
  | succ n =>
    unfold leaves at h
    split at h
    · split at h
      · simp at h; subst h; exact ⟨_, _, by assumption, by assumption, by assumption, by simp [clsOf]⟩
      · cases h
    · split at h
      · simp at h; subst h; exact ⟨_, _, by assumption, by assumption, by assumption, by simp [clsOf]⟩
      · cases h
    · split at h
      · simp at h; subst h; exact ⟨_, _, by assumption, by assumption, by assumption, by simp [clsOf]⟩
      · cases h
    · refine ⟨_, _, by assumption, by assumption, ?_, by simp [clsOf, clsAg]⟩
      split at h
      · split at h
        · simp at h; subst h; rename_i hl; exact hl.symm
        · cases h
      · cases h
    · refine ⟨_, _, by assumption, by assumption, ?_, by simp [clsOf, clsAg]⟩
      split at h
      · split at h
        · simp at h; subst h; rename_i hl; rw [← hl]; simp [List.length_flatten]
        · cases h
      · cases h
    · cases h
theorem run_part' {t : TypeId} {i : TypeInfo} {d : TypeDesc} (hi : P.info? t = some i) (hd : P.underlying t = some d) (arr : Array Value) {off : Nat} (hlt : clsAg (clsOf d) = false → off < arr.size) :
    (part t arr off).run P w = .ok (if clsAg (clsOf d) then .agg (arr.extract off (off + i.size)) else arr.getD off undef) w := by
  have hag : (isAgg t).run P w = .ok (clsAg (clsOf d)) w := by
    cases d <;> simp [isAgg, run_underlying hd, clsOf, clsAg]
  unfold part
  simp only [Sem.run_bind, hag, Result.andThen_ok]
  cases h : clsAg (clsOf d)
  · have := hlt h
    simp [this, Array.getD]
  · simp [sizeOf, typeInfo, hi]
theorem cut_extract (arr : Array Value) (off n o k : Nat) (h : o + k ≤ n) : cut (arr.extract off (off + n)) o k = cut arr (off + o) k := by
  unfold cut
  apply List.ext_getElem?
  intro j
  simp only [List.getElem?_take, List.getElem?_drop]
  split
  · rw [Array.toList_extract]
    simp [List.getElem?_take, List.getElem?_drop]
    rw [if_pos (by omega), Nat.add_assoc]
  · rfl
theorem eq_array_loop {m e : Nat} {l : List Cls} {xs ys : Array Value} (hs : (sizeOf e).run P w = .ok l.length w) (ih : EqOk P w m e l) : ∀ (n j : Nat) (p : Bool), (j + n) * l.length ≤ xs.size → (j + n) * l.length ≤ ys.size →
    eqVals (List.replicate n l).flatten (cut xs (j * l.length) (n * l.length)) (cut ys (j * l.length) (n * l.length)) = some p →
    ∃ r, (forIn (List.range' j n) (none, ()) (fun i (__s : Option Bool × Unit) => (do
              let __do_lift ← part e xs (i * l.length)
              let __do_lift_1 ← part e ys (i * l.length)
              let __do_lift ← Op.equalIn m e __do_lift __do_lift_1
              if (!__do_lift) = true then pure (ForInStep.done (some false, ())) else pure (ForInStep.yield (none, ())) : Sem (ForInStep (Option Bool × Unit))))).run P w = .ok r w ∧
      (match r.1 with | some r => r | none => true) = p
  | 0, j, p, _, _, hp => by
    simp [cut, eqVals] at hp
    subst hp
    exact ⟨(none, ()), by simp, rfl⟩
  | n + 1, j, p, hx, hy, hp => by
    have e1 : (n + 1) * l.length = l.length + n * l.length := by rw [Nat.add_mul]; omega
    have e2 : (j + (n + 1)) * l.length = j * l.length + (l.length + n * l.length) := by rw [Nat.add_mul, e1]
    rw [List.replicate_succ, List.flatten_cons, e1, cut_append, cut_append] at hp
    obtain ⟨a, b, g1, g2, rfl⟩ := eqVals_append (cut_len (by omega)) (cut_len (by omega)) hp
    obtain ⟨u, v, r1, r2, r3⟩ := ih xs ys (j * l.length) a (by omega) (by omega) g1
    have e3 : j * l.length + l.length = (j + 1) * l.length := by rw [Nat.add_mul]; omega
    rw [e3] at g2
    obtain ⟨r, q1, q2⟩ := eq_array_loop hs ih n (j + 1) b (by rw [← Nat.add_assoc] at hx; rw [show j + 1 + n = j + n + 1 by omega]; exact hx) (by rw [← Nat.add_assoc] at hy; rw [show j + 1 + n = j + n + 1 by omega]; exact hy) g2
    rw [List.range'_succ, List.forIn_cons]
    simp only [Sem.run_bind, r1, Result.andThen_ok, r2, r3]
    cases a
    · exact ⟨(some false, ()), by simp, by simp⟩
    · exact ⟨r, by simpa using q1, by simpa using q2⟩
theorem eqIn_ok : ∀ (n : Nat) (t : TypeId) (l : List Cls), leaves P n t = some l → ∀ m, n ≤ m → EqOk P w m t l
  | 0, t, l, h, m, _ => by simp [leaves] at h
  | n + 1, t, l, h, 0, hm => by omega
  | n + 1, t, l, h, m + 1, hm => by
    intro xs ys off p hx hy hp
    obtain ⟨i, d, hi, hd, hag, hbas⟩ := leaves_len h
    have ih : ∀ t l, leaves P n t = some l → EqOk P w m t l := fun t l hl => eqIn_ok n t l hl m (by omega)
    have hbasic : clsAg (clsOf d) = false → ∃ a b, (part t xs off).run P w = .ok a w ∧ (part t ys off).run P w = .ok b w ∧ (Op.equalIn (m + 1) t a b).run P w = .ok p w := by
      intro hc
      have hl := hbas hc
      subst hl
      simp at hx hy
      refine ⟨_, _, run_part' hi hd xs (fun _ => by omega), run_part' hi hd ys (fun _ => by omega), ?_⟩
      have c1 : cut xs off 1 = [xs.getD off undef] := by
        unfold cut
        rw [List.drop_eq_getElem_cons (by simpa using by omega)]
        simp [Array.getD, show off < xs.size by omega]
      have c2 : cut ys off 1 = [ys.getD off undef] := by
        unfold cut
        rw [List.drop_eq_getElem_cons (by simpa using by omega)]
        simp [Array.getD, show off < ys.size by omega]
      simp only [List.length_singleton, c1, c2, eqVals] at hp
      split at hp
      · rename_i q hq
        simp at hp; subst hp
        simp only [hc, Bool.false_eq_true, if_false]
        exact litEq_ok hq hd rfl
      · cases hp
    cases hcl : clsAg (clsOf d) with
    | false => exact hbasic hcl
    | true =>
      have hsz := hag
      refine ⟨_, _, run_part' hi hd xs (by simp [hcl]), run_part' hi hd ys (by simp [hcl]), ?_⟩
      simp only [hcl, if_true]
      have sx : (xs.extract off (off + i.size)).size = l.length := by simp; omega
      have sy : (ys.extract off (off + i.size)).size = l.length := by simp; omega
      unfold leaves at h
      rw [hi, hd] at h
      cases d with
      | struct fs =>
        simp only at h
        split at h
        · rename_i l' hst hfold
          split at h
          · simp at h; subst h
            have hfold' : fs.toList.foldl (foldStep P n) (some []) = some l' := hfold
            obtain ⟨l1, e1, hl1⟩ := eqFields_ok ih fs.toList [] l' hfold'
            simp at e1; subst e1
            have hf : P.fieldsOf t = fs := by simp [Program.fieldsOf, hd]
            rw [run_equalIn_struct w m t _ _ (by rw [hf]; exact hd) hst, hf]
            refine hl1 _ _ p (by omega) (by omega) ?_
            rw [List.length_nil, cut_extract _ _ _ _ _ (by omega), cut_extract _ _ _ _ _ (by omega)]
            simpa using hp
          · cases h
        · cases h
      | array k e =>
        simp only at h
        split at h
        · rename_i l' hlv
          split at h
          · rename_i hkl
            simp at h; subst h
            obtain ⟨ie, de, hie, hde, hage, hbase⟩ := leaves_len hlv
            have hse : (sizeOf e).run P w = .ok ie.size w := by simp [sizeOf, typeInfo, hie]
            rw [hage] at hse
            simp only [Op.equalIn, Sem.run_bind, run_underlying hd, Result.andThen_ok, hse]
            have hll : (List.replicate k l').flatten.length = k * l'.length := by simp [List.length_flatten]
            rw [hll] at sx sy hp
            have hx2 : off + k * l'.length ≤ xs.size := by rw [← hll]; exact hx
            have hy2 : off + k * l'.length ≤ ys.size := by rw [← hll]; exact hy
            obtain ⟨r, q1, q2⟩ := eq_array_loop (xs := xs.extract off (off + i.size)) (ys := ys.extract off (off + i.size)) hse (ih e l' hlv) k 0 p (by rw [sx]; simp) (by rw [sy]; simp)
              (by rw [Nat.zero_mul, cut_extract _ _ _ _ _ (by omega), cut_extract _ _ _ _ _ (by omega)]; simpa using hp)
            rw [Std.Legacy.Range.forIn_eq_forIn_range']
            simp only [Std.Legacy.Range.size, Nat.sub_zero, Nat.add_sub_cancel, Nat.div_one, q1, Result.andThen_ok]
            rw [← q2]
            cases r with
            | mk r1 r2 => cases r1 <;> rfl
          · cases h
        · cases h
      | _ => simp [clsOf, clsAg] at hcl
end
end Go.Fw
