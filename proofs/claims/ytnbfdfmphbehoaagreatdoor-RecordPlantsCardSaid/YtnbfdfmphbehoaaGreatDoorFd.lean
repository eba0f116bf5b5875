/- Framework: a function called with known values, by running it on abstract values. Program independent. -/

import Derived.Test.YtnbfdfmphbehoaaGreatDoorFc
namespace Go.Fw
abbrev CL := FuncId → List SV → Sum (List Nat) Res
def intBinE (op : BinOp) (k : IntKind) (a b : Int) : Option Value :=
  match op with
  | .add => some (.int k (k.wrap (a + b)))
  | .sub => some (.int k (k.wrap (a - b)))
  | .mul => some (.int k (k.wrap (a * b)))
  | .quo => if b ≠ 0 then some (.int k (k.wrap (a.tdiv b))) else none
  | .rem => if b ≠ 0 then some (.int k (a.tmod b)) else none
  | .and => some (.int k (k.wrap (BitVec.ofInt k.bits a &&& BitVec.ofInt k.bits b).toNat))
  | .or => some (.int k (k.wrap (BitVec.ofInt k.bits a ||| BitVec.ofInt k.bits b).toNat))
  | .xor => some (.int k (k.wrap (BitVec.ofInt k.bits a ^^^ BitVec.ofInt k.bits b).toNat))
  | .andNot => some (.int k (k.wrap (BitVec.ofInt k.bits a &&& ~~~BitVec.ofInt k.bits b).toNat))
  | .eql => some (.bool (a == b))
  | .neq => some (.bool (a != b))
  | .lss => some (.bool (decide (a < b)))
  | .leq => some (.bool (decide (a ≤ b)))
  | .gtr => some (.bool (decide (a > b)))
  | .geq => some (.bool (decide (a ≥ b)))
  | _ => none
theorem intBinE_ok {op : BinOp} {k : IntKind} {a b : Int} {v : Value} (h : intBinE op k a b = some v) {K : Value → Prop} (hK : K v) : intBin op k a b K := by
  unfold intBinE at h; unfold intBin
  cases op <;> simp only [Option.some.injEq, reduceCtorEq] at h ⊢ <;> first | (cases h; done) | (subst h; exact hK) | (split at h <;> first | (cases h; done) | (cases h; exact ⟨by assumption, hK⟩))
def strBinE (op : BinOp) (a b : ByteArray) : Option Value :=
  match op with
  | .add => if a.size + b.size ≤ 2 ^ 40 then some (.string (a ++ b)) else none
  | .eql => some (.bool (a.toList == b.toList))
  | .neq => some (.bool !(a.toList == b.toList))
  | .lss => some (.bool (Op.bytesLess a.toList b.toList))
  | .leq => some (.bool (Op.bytesLess a.toList b.toList || a.toList == b.toList))
  | .gtr => some (.bool !(Op.bytesLess a.toList b.toList || a.toList == b.toList))
  | .geq => some (.bool !(Op.bytesLess a.toList b.toList))
  | _ => none
theorem strBinE_ok {op : BinOp} {a b : ByteArray} {v : Value} (h : strBinE op a b = some v) {K : Value → Prop} (hK : K v) : strBin op a b K := by
  unfold strBinE at h; unfold strBin
  cases op <;> simp only [Option.some.injEq, reduceCtorEq] at h ⊢ <;> first | (cases h; done) | (subst h; exact hK) | (split at h <;> first | (cases h; done) | (cases h; exact ⟨by assumption, hK⟩))
def litBinE (op : BinOp) : Value → Value → Option Value
  | .int k a, .int k' b => match op with
    | .shl => if 0 ≤ b then some (.int k (k.wrap (a * 2 ^ (min b.toNat k.bits)))) else none
    | .shr => if 0 ≤ b then some (.int k (a.fdiv (2 ^ (min b.toNat k.bits)))) else none
    | op => match decide (k = k') with
      | true => intBinE op k a b
      | false => none
  | .string a, .string b => strBinE op a b
  | _, _ => none
theorem litBinE_ok {op : BinOp} {x y : Value} {v : Value} (h : litBinE op x y = some v) {K : Value → Prop} (hK : K v) : litBin op x y K := by
  unfold litBinE at h; unfold litBin
  split at h
  · split at h
    · split at h
      · cases h; exact ⟨by assumption, hK⟩
      · cases h
    · split at h
      · cases h; exact ⟨by assumption, hK⟩
      · cases h
    · split at h
      · rename_i n1 n2 _ e
        cases op <;> first | exact (n1 rfl).elim | exact (n2 rfl).elim | (simp only [e]; exact intBinE_ok h hK)
      · cases h
  · exact strBinE_ok h hK
  · cases h
def binE (C : Ctx) (nc : Bool) (op : BinOp) (T : TypeId) (x y : DX) : Option DV :=
  match x, y with
  | (false, [.st (.lit (.bool a))]), (false, [.st (.lit (.bool b))]) => match C.ti T with
    | some i => match i.cls, op with
      | .bool, .eql => some (lit (.bool (a == b)))
      | .bool, .neq => some (lit (.bool !(a == b)))
      | _, _ => none
    | none => none
  | (false, [.st (.lit .nilIface)]), (false, [.st (.lit .nilIface)]) => match C.ti T, nc with
    | some i, true => match i.cls, op with
      | .iface, .eql => some (lit (.bool true))
      | .iface, .neq => some (lit (.bool false))
      | _, _ => none
    | _, _ => none
  | (false, [.st .err]), (false, [.st (.lit .nilIface)]) => match C.ti T with
    | some i => match i.cls, op with
      | .iface, .eql => some (lit (.bool false))
      | .iface, .neq => some (lit (.bool true))
      | _, _ => none
    | none => none
  | (false, [d]), (false, [.st (.lit (.pointer none))]) => match isPtr d, C.ti T with
    | some b, some i => match i.cls, op with
      | .ptr _, .eql => some (lit (.bool !b))
      | .ptr _, .neq => some (lit (.bool b))
      | _, _ => none
    | _, _ => none
  | (false, [.st (.lit a)]), (false, [.st (.lit b)]) => match litBinE op a b with
    | some v => some (lit v)
    | none => none
  | (true, xs), (true, ys) => match C.ti T with
    | some i => match clsAg i.cls with
      | true => match i.eqs, op with
        | some l, .eql => match eqCells l xs ys with
          | some b => some (lit (.bool b))
          | none => none
        | some l, .neq => match eqCells l xs ys with
          | some b => some (lit (.bool !b))
          | none => none
        | _, _ => none
      | false => none
    | none => none
  | _, _ => none
theorem binE_ok {C : Ctx} {nc : Bool} {op : BinOp} {T : TypeId} {x y : DX} {v : DV} (h : binE C nc op T x y = some v) {K : DV → Prop} (hK : K v) : binA C nc op T x y K := by
  unfold binE at h; unfold binA
  split at h
  · split at h
    · split at h <;> first | (cases h; done) | (cases h; simp_all)
    · cases h
  · split at h
    · split at h <;> first | (cases h; done) | (cases h; simp_all)
    · cases h
  · split at h
    · split at h <;> first | (cases h; done) | (cases h; simp_all)
    · cases h
  · split at h
    · rename_i hb hi
      split at h
      · rename_i hc; cases h; simp only [hb, hi, hc]; exact hK
      · rename_i hc; cases h; simp only [hb, hi, hc]; exact hK
      · cases h
    · cases h
  · split at h
    · rename_i a b _ _ _ _ v' hv
      cases h
      cases a <;> cases b <;> first | (cases hv; done) | (refine litBinE_ok hv ?_; exact hK)
    · cases h
  · split at h
    · split at h
      · split at h
        · split at h <;> first | (cases h; done) | (cases h; simp_all)
        · split at h <;> first | (cases h; done) | (cases h; simp_all)
        · cases h
      · cases h
    · cases h
  · cases h
def unE (op : UnOp) (x : DX) : Option DV :=
  match op, x with
  | .neg, (false, [.st (.lit (.int k n))]) => some (lit (.int k (k.wrap (0 - n))))
  | .xor, (false, [.st (.lit (.int k n))]) => some (lit (.int k (k.wrap (BitVec.ofInt k.bits (if k.signed then -1 else k.max) ^^^ BitVec.ofInt k.bits n).toNat)))
  | .not, (false, [.st (.lit (.bool b))]) => some (lit (.bool !b))
  | _, _ => none
theorem unE_ok {op : UnOp} {x : DX} {v : DV} (h : unE op x = some v) {K : DV → Prop} (hK : K v) : unA op x K := by
  unfold unE at h; unfold unA
  split at h <;> cases h <;> exact hK
def loadE (C : Ctx) (T : TypeId) (x : DX) (H : HF) : Option Eff :=
  match C.ti T with
  | none => none
  | some i =>
    match x with
    | (false, [.ptr id off]) => match H id with
      | some (.box _ cs) => match Nat.ble (off + i.size) cs.length && (clsAg i.cls || Nat.beq i.size 1) with
        | true => some (.val (clsAg i.cls, (cs.drop off).take i.size), [], [id])
        | false => none
      | some (.fbox cs) => match Nat.ble (off + i.size) cs.length && (clsAg i.cls || Nat.beq i.size 1) with
        | true => some (.val (clsAg i.cls, ((cs.drop off).take i.size).map .st), [], [id])
        | false => none
      | _ => none
    | (false, [.st (.ref cs)]) => match Nat.ble i.size cs.length && (clsAg i.cls || Nat.beq i.size 1) with
      | true => some (.val (clsAg i.cls, (cs.take i.size).map .st), [], [])
      | false => none
    | (false, [.rptr id z n off]) => match H id with
      | some (.row _ z' c) => match Nat.beq z z' && Nat.ble (off + i.size) z && (clsAg i.cls || Nat.beq i.size 1) with
        | true => match c.elem n with
          | some e => some (.val (clsAg i.cls, ((e.drop off).take i.size).map .st), [], [id])
          | none => none
        | false => none
      | some (.rowD z' l) => match Nat.beq z z' && Nat.ble (off + i.size) z && (clsAg i.cls || Nat.beq i.size 1) with
        | true => match l[n]? with
          | some e => some (.val (clsAg i.cls, (e.drop off).take i.size), [], [id])
          | none => none
        | false => none
      | _ => none
    | _ => none
theorem loadE_ok {C : Ctx} {T : TypeId} {x : DX} {H : HF} {e : Eff} (h : loadE C T x H = some e) {K : OpK} (hK : K e.1 e.2.1 e.2.2) : loadA C T x H K := by
  unfold loadE at h; unfold loadA
  repeat' split at h
  all_goals first | (cases h; done) | (cases h; simp only [*, Option.some.injEq, exists_eq_left']; done) | (cases h; simp only [*, and_self, true_and, and_true, Option.some.injEq, exists_eq_left', exists_eq_left]; simp only [*, and_self, true_and, and_true, Option.some.injEq, exists_eq_left', exists_eq_left]; done)
def storeE (C : Ctx) (T : TypeId) (x v : DX) (H : HF) : Option Eff :=
  match C.ti T with
  | none => none
  | some i => match Nat.beq v.2.length i.size with
    | false => none
    | true => match x with
      | (false, [.ptr id off]) => match H id with
        | some (.box t cs) => match Nat.ble (off + i.size) cs.length with
          | true => some (.tup [], [(id, some (.box t (splice cs off v.2)))], [id])
          | false => none
        | _ => none
      | (false, [.rptr id z n off]) => match H id with
        | some (.row true z' c) => match Nat.beq z z' && Nat.ble (off + i.size) z with
          | true => match stat1L H i.kinds v.2 with
            | some (l, [], r) => match flats l with
              | true => match c.elem n with
                | some e => match c.setElem n (splice e off l) with
                  | some c' => some (.tup [], [(id, some (.row true z' c'))], (id :: r))
                  | none => none
                | none => none
              | false => none
            | _ => none
          | false => none
        | some (.rowD z' l) => match Nat.beq z z' && Nat.ble (off + i.size) z with
          | true => match l[n]? with
            | some e => some (.tup [], [(id, some (.rowD z' (l.set n (splice e off v.2))))], [id])
            | none => none
          | false => none
        | _ => none
      | _ => none
theorem storeE_ok {C : Ctx} {T : TypeId} {x v : DX} {H : HF} {e : Eff} (h : storeE C T x v H = some e) {K : OpK} (hK : K e.1 e.2.1 e.2.2) : storeA C T x v H K := by
  unfold storeE at h; unfold storeA
  repeat' split at h
  all_goals first | (cases h; done) | (cases h; simp only [*, Option.some.injEq, exists_eq_left']; done) | (cases h; simp only [*, and_self, true_and, and_true, Option.some.injEq, exists_eq_left', exists_eq_left]; simp only [*, and_self, true_and, and_true, Option.some.injEq, exists_eq_left', exists_eq_left]; done)
def fieldAddrE (C : Ctx) (T : TypeId) (x : DX) (f : Nat) : Option Eff :=
  match C.ti T with
  | none => none
  | some i => match i.cls with
    | .struct fs => match fs[f]? with
      | some (o, ft) => match C.ti ft with
        | some fi => match Nat.ble 1 fi.size with
          | true => match x with
            | (false, [.ptr id off]) => some (one (.ptr id (off + o)), [], [])
            | (false, [.st (.ref cs)]) => some (one (.st (.ref (cs.drop o))), [], [])
            | (false, [.rptr id z n off]) => some (one (.rptr id z n (off + o)), [], [])
            | _ => none
          | false => none
        | none => none
      | none => none
    | _ => none
theorem fieldAddrE_ok {C : Ctx} {T : TypeId} {x : DX} {f : Nat} {e : Eff} (h : fieldAddrE C T x f = some e) {K : OpK} (hK : K e.1 e.2.1 e.2.2) : fieldAddrA C T x f K := by
  unfold fieldAddrE at h; unfold fieldAddrA
  repeat' split at h
  all_goals first | (cases h; done) | (cases h; simp only [*]; done) | (cases h; simp only [*, and_self, true_and, and_true, Option.some.injEq, exists_eq_left', exists_eq_left]; simp only [*, and_self, true_and, and_true, Option.some.injEq, exists_eq_left', exists_eq_left]; done)
def indexAddrE (C : Ctx) (T : TypeId) (x ix : DX) (H : HF) : Option Eff :=
  match C.ti T with
  | none => none
  | some i => match i.cls, ix with
    | .slice e, (false, [.st (.lit (.int _ n))]) => match C.ti e with
      | none => none
      | some ie => match x with
        | (false, [.own id]) => match H id with
          | some (.row _ z c) => match Nat.beq z ie.size with
            | true => if 0 ≤ n ∧ n < c.len then some (one (.rptr id z n.toNat 0), [], [id]) else none
            | false => none
          | some (.rowD z l) => match Nat.beq z ie.size with
            | true => if 0 ≤ n ∧ n < l.length then some (one (.rptr id z n.toNat 0), [], [id]) else none
            | false => none
          | _ => none
        | (false, [.st c]) => match c.isView with
          | true => if 0 ≤ n then match c.elem n.toNat with
            | some el => if el.length = ie.size then some (one (.st (.ref el)), [], []) else none
            | none => none
            else none
          | false => none
        | _ => none
    | .array len e, (false, [.st (.lit (.int _ n))]) => match C.ti e with
      | none => none
      | some ie => match x with
        | (false, [.ptr id off]) => if 0 ≤ n ∧ n < len then some (one (.ptr id (off + n.toNat * ie.size)), [], []) else none
        | (false, [.st (.ref cs)]) => if 0 ≤ n ∧ n < len then some (one (.st (.ref (cs.drop (n.toNat * ie.size)))), [], []) else none
        | _ => none
    | _, _ => none
theorem indexAddrE_ok {C : Ctx} {T : TypeId} {x ix : DX} {H : HF} {e : Eff} (h : indexAddrE C T x ix H = some e) {K : OpK} (hK : K e.1 e.2.1 e.2.2) : indexAddrA C T x ix H K := by
  unfold indexAddrE at h; unfold indexAddrA
  repeat' split at h
  all_goals first | (cases h; done) | (cases h; simp only [*, and_self, Option.some.injEq, exists_eq_left']; done) | (cases h; simp only [*, and_self, true_and, and_true, Option.some.injEq, exists_eq_left', exists_eq_left]; simp only [*, and_self, true_and, and_true, Option.some.injEq, exists_eq_left', exists_eq_left]; done)
def partE (i : TI) (cs : List DC) (off : Nat) : Option Eff :=
  match Nat.ble (off + i.size) cs.length && (isAg i || Nat.beq i.size 1) with
  | true => some (.val (isAg i, (cs.drop off).take i.size), [], [])
  | false => none
theorem partE_ok {i : TI} {cs : List DC} {off : Nat} {e : Eff} (h : partE i cs off = some e) {K : OpK} (hK : K e.1 e.2.1 e.2.2) : partA i cs off K := by
  unfold partE at h; unfold partA
  repeat' split at h
  all_goals first | (cases h; done) | (cases h; simp only [*]; done) | (cases h; simp only [*, and_self, true_and, and_true, Option.some.injEq, exists_eq_left', exists_eq_left]; simp only [*, and_self, true_and, and_true, Option.some.injEq, exists_eq_left', exists_eq_left]; done)
def indexE (C : Ctx) (T : TypeId) (x ix : DX) : Option Eff :=
  match C.ti T with
  | none => none
  | some i => match i.cls, ix with
    | .array len e, (false, [.st (.lit (.int _ n))]) => match C.ti e with
      | none => none
      | some ie => match x with
        | (true, cs) => if 0 ≤ n ∧ n < len then partE ie cs (n.toNat * ie.size) else none
        | _ => none
    | .str, (false, [.st (.lit (.int _ n))]) => match x with
      | (false, [.st (.lit (.string s))]) => if 0 ≤ n then match s[n.toNat]? with
        | some b => some (lit (.int .u8 (b.toNat : Nat)), [], [])
        | none => none
        else none
      | _ => none
    | _, _ => none
theorem indexE_ok {C : Ctx} {T : TypeId} {x ix : DX} {e : Eff} (h : indexE C T x ix = some e) {K : OpK} (hK : K e.1 e.2.1 e.2.2) : indexA C T x ix K := by
  unfold indexE at h; unfold indexA
  repeat' split at h
  all_goals first | (cases h; done) | (simp only [*, and_self, true_and, Option.some.injEq, exists_eq_left']; exact partE_ok h hK) | (cases h; simp only [*, and_self, Option.some.injEq, exists_eq_left']; done)
def fieldE (C : Ctx) (T : TypeId) (x : DX) (f : Nat) : Option Eff :=
  match C.ti T with
  | none => none
  | some i => match i.cls with
    | .struct fs => match fs[f]? with
      | some (o, ft) => match C.ti ft with
        | some fi => match x with
          | (true, cs) => partE fi cs o
          | _ => none
        | none => none
      | none => none
    | _ => none
theorem fieldE_ok {C : Ctx} {T : TypeId} {x : DX} {f : Nat} {e : Eff} (h : fieldE C T x f = some e) {K : OpK} (hK : K e.1 e.2.1 e.2.2) : fieldA C T x f K := by
  unfold fieldE at h; unfold fieldA
  repeat' split at h
  all_goals first | (cases h; done) | (simp only [*]; exact partE_ok h hK) | (cases h; simp only [*, and_self, true_and, and_true, Option.some.injEq, exists_eq_left', exists_eq_left]; done)
def bndE (d : Option (Option DV)) (dflt : Nat) : Option Nat :=
  match d with
  | none => some dflt
  | some (some (.val (false, [.st (.lit (.int _ n))]))) => if 0 ≤ n then some n.toNat else none
  | _ => none
theorem bndE_ok {d : Option (Option DV)} {dflt n : Nat} (h : bndE d dflt = some n) {K : Nat → Prop} (hK : K n) : bnd d dflt K := by
  unfold bndE at h; unfold bnd
  repeat' split at h
  all_goals first | (cases h; done) | (cases h; simp only [*, and_self]; done) | (cases h; simp only [*, and_self, true_and, and_true, Option.some.injEq, exists_eq_left', exists_eq_left]; simp only [*, and_self, true_and, and_true, Option.some.injEq, exists_eq_left', exists_eq_left]; done)
def uniE (z : Nat) : SC → Bool
  | .ints _ => Nat.beq z 1
  | .view es => es.all fun e => Nat.beq e.length z
  | _ => false
theorem uniE_ok {c : SC} {z : Nat} (h : uniE z c = true) : c.uni z := by
  cases c <;> simp only [uniE, Bool.false_eq_true] at h
  · exact Nat.eq_of_beq_eq_true h
  · intro e he; exact Nat.eq_of_beq_eq_true (List.all_eq_true.1 h e he)
def sliceE (C : Ctx) (T : TypeId) (x : DX) (lo hi : Option (Option DV)) (H : HF) : Option Eff :=
  match C.ti T with
  | none => none
  | some i => match i.cls with
    | .slice e => match C.ti e with
      | none => none
      | some ie => match stat1L H i.kinds x.2 with
        | some ([c], u, r) => match x.1, c.isView with
          | false, true => match bndE lo 0 with
            | some l => match bndE hi c.len with
              | some h => match decide (l ≤ h ∧ h ≤ c.len) && uniE ie.size c with
                | true => some (one (.st (c.sub l h)), u, r)
                | false => none
              | none => none
            | none => none
          | _, _ => none
        | _ => none
    | .str => match x with
      | (false, [.st (.lit (.string s))]) => match bndE lo 0 with
        | some l => match bndE hi s.size with
          | some h => if l ≤ h ∧ h ≤ s.size then some (lit (.string (s.extract l h)), [], []) else none
          | none => none
        | none => none
      | _ => none
    | .array n e => match C.ti e with
      | none => none
      | some ie => match x, lo, hi with
        | (false, [.ptr id off]), none, none => match H id with
          | some (.box t cs) => match stat1L H (C.kinds t) cs with
            | some (l, u, r) => match C.isInts e, Nat.beq ie.size 1 && Nat.ble (off + n) l.length && Nat.ble 1 n with
              | true, true => match toInts (((l.drop off).take n).map fun c => [c]) with
                | some ns => some (one (.st (.ints ns)), ((id, some (.fbox l)) :: u), (id :: r))
                | none => none
              | _, _ => none
            | none => none
          | some (.fbox l) => match C.isInts e, Nat.beq ie.size 1 && Nat.ble (off + n) l.length && Nat.ble 1 n with
              | true, true => match toInts (((l.drop off).take n).map fun c => [c]) with
                | some ns => some (one (.st (.ints ns)), [], [id])
                | none => none
              | _, _ => none
          | _ => none
        | _, _, _ => none
    | _ => none
theorem sliceE_ok {C : Ctx} {T : TypeId} {x : DX} {lo hi : Option (Option DV)} {H : HF} {e : Eff} (h : sliceE C T x lo hi H = some e) {K : OpK} (hK : K e.1 e.2.1 e.2.2) : sliceA C T x lo hi H K := by
  unfold sliceE at h; unfold sliceA
  split at h
  · cases h
  split at h
  · split at h
    · cases h
    split at h
    · split at h
      · split at h
        · split at h
          · split at h
            · rename_i hl _ _ hh _ hd
              simp only [Bool.and_eq_true, decide_eq_true_eq] at hd
              cases h
              simp only [*]
              refine bndE_ok hl ?_; refine bndE_ok hh ?_; exact ⟨hd.1, uniE_ok hd.2, hK⟩
            · cases h
          · cases h
        · cases h
      · cases h
    · cases h
  · split at h
    · split at h
      · split at h
        · split at h
          · rename_i hl _ _ hh hd
            cases h
            simp only [*]
            refine bndE_ok hl ?_; refine bndE_ok hh ?_; exact ⟨hd, hK⟩
          · cases h
        · cases h
      · cases h
    · cases h
  · repeat' split at h
    all_goals first | (cases h; done) | (cases h; simp only [*]; done) | (cases h; simp only [*, and_self, true_and, and_true, Option.some.injEq, exists_eq_left', exists_eq_left]; simp only [*, and_self, true_and, and_true, Option.some.injEq, exists_eq_left', exists_eq_left]; done)
  · cases h
def makeFuncE (C : Ctx) (f : FuncId) (first caps : List (Option DV)) (H : HF) : Option Eff :=
  match makeFuncA.firsts H first with
  | some (a, u, r) => match makeFuncA.capts C H caps with
    | some (b, u', r') => some (one (.st (.fn f a b)), (u ++ u'), (r ++ r'))
    | none => none
  | none => none
theorem makeFuncE_ok {C : Ctx} {f : FuncId} {first caps : List (Option DV)} {H : HF} {e : Eff} (h : makeFuncE C f first caps H = some e) {K : OpK} (hK : K e.1 e.2.1 e.2.2) : makeFuncA C f first caps H K := by
  unfold makeFuncE at h; unfold makeFuncA
  repeat' split at h
  all_goals first | (cases h; done) | (cases h; simp only [*]; done) | (cases h; simp only [*, and_self, true_and, and_true, Option.some.injEq, exists_eq_left', exists_eq_left]; simp only [*, and_self, true_and, and_true, Option.some.injEq, exists_eq_left', exists_eq_left]; done)
def makeSliceE (C : Ctx) (fid : Nat) (T : TypeId) (l c : DX) : Option Eff :=
  match C.ti T with
  | none => none
  | some i => match i.cls, l, c with
    | .slice e, (false, [.st (.lit (.int _ n))]), (false, [.st (.lit (.int _ m))]) => match C.ti e with
      | none => none
      | some ie => match Nat.ble 1 ie.size && Nat.ble ie.bytes 4096 && Nat.beq ie.zero.length ie.size with
        | true => if 0 ≤ n ∧ n ≤ m ∧ m ≤ LIM then match C.isInts e with
          | true => match ie.zero with
            | [.lit (.int .i64 0)] => some (one (.own fid), [(fid, some (.row true ie.size (.ints (List.replicate n.toNat 0))))], [])
            | _ => none
          | false => match zerosS ie.kinds ie.zero with
            | some z => some (one (.own fid), [(fid, some (.row true ie.size (.view (List.replicate n.toNat z))))], [])
            | none => none
          else none
        | false => none
    | _, _, _ => none
theorem makeSliceE_ok {C : Ctx} {fid : Nat} {T : TypeId} {l c : DX} {e : Eff} (h : makeSliceE C fid T l c = some e) {K : OpK} (hK : K e.1 e.2.1 e.2.2) : makeSliceA C fid T l c K := by
  unfold makeSliceE at h; unfold makeSliceA
  split at h
  · cases h
  split at h
  · split at h
    · cases h
    split at h
    · rename_i hb
      split at h
      · rename_i hn
        simp only [*, true_and]
        repeat' split at h
        all_goals first | (cases h; done) | (cases h; simp only [*]; done)
      · cases h
    · cases h
  · cases h
def appendE (C : Ctx) (fid : Nat) (T : TypeId) (x y : DX) (H : HF) : Option Eff :=
  match C.ti T with
  | none => none
  | some i => match i.cls, y with
    | .slice e, (false, [yc]) => match C.ti e with
      | none => none
      | some ie => match Nat.ble 1 ie.size && Nat.ble ie.bytes 4096 && Nat.beq ie.zero.length ie.size with
        | false => none
        | true => match stat1 H (C.isInts e) yc with
          | none => none
          | some (cy, _, ry) => match x with
            | (false, [.nil]) => match SC.cat (nilOf (C.isInts e)) cy with
              | some c' => match uniE ie.size c' && Nat.ble c'.len LIM with
                | true => some (one (.own fid), [(fid, some (.row true ie.size c'))], ry)
                | false => none
              | none => none
            | (false, [.own id]) => match H id with
              | some (.row m z c) => match Nat.beq z ie.size, SC.cat c cy with
                | true, some c' => match uniE z cy && Nat.ble c'.len LIM with
                  | true => some (one (.own fid), [(fid, some (.row m z c')), (id, none)], (id :: ry))
                  | false => none
                | _, _ => none
              | _ => none
            | _ => none
    | _, _ => none
theorem appendE_ok {C : Ctx} {fid : Nat} {T : TypeId} {x y : DX} {H : HF} {e : Eff} (h : appendE C fid T x y H = some e) {K : OpK} (hK : K e.1 e.2.1 e.2.2) : appendA C fid T x y H K := by
  unfold appendE at h; unfold appendA
  split at h
  · cases h
  split at h
  · split at h
    · cases h
    split at h
    · cases h
    split at h
    · cases h
    split at h
    · split at h
      · split at h
        · rename_i hd
          simp only [Bool.and_eq_true] at hd
          cases h
          simp only [*]
          exact ⟨uniE_ok hd.1, Nat.le_of_ble_eq_true hd.2, trivial⟩
        · cases h
      · cases h
    · split at h
      · split at h
        · split at h
          · rename_i hd
            simp only [Bool.and_eq_true] at hd
            cases h
            simp only [*]
            exact ⟨uniE_ok hd.1, Nat.le_of_ble_eq_true hd.2, trivial⟩
          · cases h
        · cases h
      · cases h
    · cases h
  · cases h
def minmaxE (isMax : Bool) (k : IntKind) (a : Int) : List DX → Option Value
  | [] => some (.int k a)
  | (false, [.st (.lit (.int k' b))]) :: r => match decide (k = k') with
    | true => minmaxE isMax k (match isMax with | true => if b > a then b else a | false => if b < a then b else a) r
    | false => none
  | _ => none
theorem minmaxE_ok {isMax : Bool} {k : IntKind} {l : List DX} : ∀ {a : Int} {v : Value}, minmaxE isMax k a l = some v → ∀ {K : Value → Prop}, K v → minmax isMax k a l K := by
  induction l with
  | nil => intro a v h K hK; simp only [minmaxE, Option.some.injEq] at h; subst h; exact hK
  | cons x r ih =>
    intro a v h K hK
    unfold minmaxE at h; unfold minmax
    split at h
    · rename_i e; cases e
    · rename_i e
      cases e
      split at h
      · rename_i e; simp only [e]; exact ih h hK
      · cases h
    · cases h
def builtinE (C : Ctx) (fid : Nat) (b : Builtin) (ats : List TypeId) (args : List (Option DV)) (H : HF) : Option Eff :=
  match b, ats, args with
  | .len, t :: _, [some (.val x)] => match C.ti t with
    | none => none
    | some i => match i.cls, x with
      | .slice _, (false, [.st c]) => match c.isView with
        | true => some (lit (.int .i64 (c.len : Nat)), [], [])
        | false => none
      | .slice _, (false, [.nil]) => some (lit (.int .i64 0), [], [])
      | .slice _, (false, [.own id]) => match H id with
        | some (.row _ _ c) => some (lit (.int .i64 (c.len : Nat)), [], [id])
        | some (.rowD _ l) => some (lit (.int .i64 (l.length : Nat)), [], [id])
        | _ => none
      | .str, (false, [.st (.lit (.string s))]) => some (lit (.int .i64 (s.size : Nat)), [], [])
      | .array n _, _ => some (lit (.int .i64 (n : Nat)), [], [])
      | _, _ => none
  | .append, [t, t'], [some (.val x), some (.val y)] => match C.ti t' with
    | some i' => match i'.cls with
      | .slice _ => appendE C fid t x y H
      | _ => none
    | none => none
  | .max, _, some (.val (false, [.st (.lit (.int k a))])) :: r => match r.mapM fun d => match d with | some (.val x) => some x | _ => none with
    | some xs => match minmaxE true k a xs with
      | some v => some (lit v, [], [])
      | none => none
    | none => none
  | .min, _, some (.val (false, [.st (.lit (.int k a))])) :: r => match r.mapM fun d => match d with | some (.val x) => some x | _ => none with
    | some xs => match minmaxE false k a xs with
      | some v => some (lit v, [], [])
      | none => none
    | none => none
  | _, _, _ => none
theorem builtinE_ok {C : Ctx} {fid : Nat} {b : Builtin} {ats : List TypeId} {args : List (Option DV)} {H : HF} {e : Eff} (h : builtinE C fid b ats args H = some e) {K : OpK} (hK : K e.1 e.2.1 e.2.2) : builtinA C fid b ats args H K := by
  unfold builtinE at h; unfold builtinA
  split at h
  · repeat' split at h
    all_goals first | (cases h; done) | (cases h; simp only [*]; done) | (cases h; simp only [*, and_self, true_and, and_true, Option.some.injEq, exists_eq_left', exists_eq_left]; simp only [*, and_self, true_and, and_true, Option.some.injEq, exists_eq_left', exists_eq_left]; done)
  · repeat' split at h
    all_goals first | (cases h; done) | (simp only [*]; exact appendE_ok h hK)
  · split at h
    · rename_i xs hm
      split at h
      · rename_i v hv
        cases h
        dsimp only
        split
        · rename_i ys hm2
          have e : some ys = some xs := hm2.symm.trans hm
          cases e
          refine minmaxE_ok hv ?_; exact hK
        · rename_i hm2
          have e : none = some xs := hm2.symm.trans hm
          cases e
      · cases h
    · cases h
  · split at h
    · rename_i xs hm
      split at h
      · rename_i v hv
        cases h
        dsimp only
        split
        · rename_i ys hm2
          have e : some ys = some xs := hm2.symm.trans hm
          cases e
          refine minmaxE_ok hv ?_; exact hK
        · rename_i hm2
          have e : none = some xs := hm2.symm.trans hm
          cases e
      · cases h
    · cases h
  · cases h
def resE (fid : Nat) (u : Hp) (rs : List Nat) : Res → Sum (List Nat) Eff
  | .one x => .inr (.val (dyn x), unless' (lits x.2) u, rs)
  | .tup l => .inr (.tup (l.map dyn), unless' (litsL l) u, rs)
  | .own z c => .inr (one (.own fid), ((fid, some (.row true z c)) :: u), rs)
  | _ => .inl [1000004]
def callE (C : Ctx) (cl : CL) (fid : Nat) (fv : Option DV) (args : List (Option DV)) (ats : List TypeId) (H : HF) : Sum (List Nat) Eff :=
  match fv, vals args with
  | some (.val (false, [.st (.fn f first caps)])), some xs => match statA C H ats xs with
    | some (l, u, rs) => match cl f (first ++ l ++ caps.map fun cs => (false, [.ref cs])) with
      | .inr r => resE fid u rs r
      | .inl p => .inl p
    | none => .inl [1000003]
  | _, _ => .inl [1000002]
theorem callE_ok {C : Ctx} {cl : CL} (hcl : ∀ f a r, cl f a = .inr r → Sat C.P C.gl f a r) {fid : Nat} {fv : Option DV} {args : List (Option DV)} {ats : List TypeId} {H : HF} {e : Eff} (h : callE C cl fid fv args ats H = .inr e) {K : OpK} (hK : K e.1 e.2.1 e.2.2) : callValA C fid fv args ats H K := by
  unfold callE at h; unfold callValA
  split at h
  · split at h
    · split at h
      · rename_i r hr
        simp only [*]
        refine ⟨r, hcl _ _ _ hr, ?_⟩
        cases r <;> simp only [resE] at h <;> first | (cases h; exact hK) | cases h
      · cases h
    · cases h
  · cases h
def convE (C : Ctx) (src dst : TypeId) (x : DX) : Option Eff :=
  match C.ti src, C.ti dst with
  | some i, some j => match i.cls, j.cls, x with
    | .int _, .int k, (false, [.st (.lit (.int _ n))]) => some (lit (.int k (k.wrap n)), [], [])
    | .str, .str, (false, [.st (.lit (.string s))]) => some (lit (.string s), [], [])
    | _, _, _ => none
  | _, _ => none
theorem convE_ok {C : Ctx} {src dst : TypeId} {x : DX} {e : Eff} (h : convE C src dst x = some e) {K : OpK} (hK : K e.1 e.2.1 e.2.2) {H : HF} : convA C src dst x H K := by
  unfold convE at h; unfold convA
  repeat' split at h
  all_goals first | (cases h; done) | (cases h; simp only [*]; done) | (cases h; simp only [*, and_self, true_and, and_true, Option.some.injEq, exists_eq_left', exists_eq_left]; simp only [*, and_self, true_and, and_true, Option.some.injEq, exists_eq_left', exists_eq_left]; done)
def er (n : Nat) : Option Eff → Sum (List Nat) Eff
  | some e => .inr e
  | none => .inl [n]
theorem er_ok {n : Nat} {o : Option Eff} {e : Eff} (h : er n o = .inr e) : o = some e := by
  cases o <;> simp [er] at h ⊢; exact h
def pur (n : Nat) : Option DV → Sum (List Nat) Eff
  | some v => .inr (v, [], [])
  | none => .inl [n]
theorem pur_ok {n : Nat} {o : Option DV} {e : Eff} (h : pur n o = .inr e) : o = some e.1 ∧ e.2.1 = [] ∧ e.2.2 = [] := by
  cases o <;> simp [pur] at h ⊢; subst h; simp
def opE (C : Ctx) (cl : CL) (fid : Nat) (o : Oper) (ev : Operand → Option DV) (H : HF) : Sum (List Nat) Eff :=
  match o.op with
  | .move x => pur 1 (ev x)
  | .assign x => pur 2 (ev x)
  | .pick c a b => match ev c with
    | some (.val (false, [.st (.lit (.bool t))])) => match t with
      | true => pur 3 (ev a)
      | false => pur 4 (ev b)
    | _ => .inl [5]
  | .alloc T => match C.ti T with
    | some i => match zeros i.zero with
      | some cs => .inr (one (.ptr fid 0), [(fid, some (.box T cs))], [])
      | none => .inl [6]
    | none => .inl [7]
  | .box T x => match ev x with
    | some (.val x) => .inr (one (.ptr fid 0), [(fid, some (.box T x.2))], [])
    | _ => .inl [8]
  | .build T parts => match C.ti T with
    | some i => match zeros i.zero with
      | some zs => match i.cls with
        | .struct fs => match fillD (fun n => match fs[n]? with | some (o, ft) => (match C.ti ft with | some fi => some (o, fi.size) | none => none) | none => none) zs (parts.toList.map fun p => (p.1, ev p.2)) with
          | some cs => .inr (.val (true, cs), [], [])
          | none => .inl [9]
        | .array _ e => match C.ti e with
          | some ie => match fillD (fun n => some (n * ie.size, ie.size)) zs (parts.toList.map fun p => (p.1, ev p.2)) with
            | some cs => .inr (.val (true, cs), [], [])
            | none => .inl [10]
          | none => .inl [11]
        | _ => .inl [12]
      | none => .inl [13]
    | none => .inl [14]
  | .buildSlice T len parts => match C.ti T with
    | some i => match i.cls with
      | .slice e => match C.ti e with
        | some ie => match Nat.ble 1 ie.size && Nat.ble (len * ie.size) 16777216 && Nat.beq parts.size len with
          | true => match litElems H ie.kinds ie.size 0 (parts.toList.map fun p => (p.1, ev p.2)) with
            | some (es, u, r) => match mkRow (C.isInts e) es with
              | some c => .inr (one (.own fid), ((fid, some (.row true ie.size c)) :: u), r)
              | none => .inl [15]
            | none => .inl [16]
          | false => .inl [17]
        | none => .inl [18]
      | _ => .inl [19]
    | none => .inl [20]
  | .load T a => match ev a with
    | some (.val x) => er 21 (loadE C T x H)
    | _ => .inl [22]
  | .store T a v => match ev a, ev v with
    | some (.val x), some (.val y) => er 23 (storeE C T x y H)
    | _, _ => .inl [24]
  | .fieldAddr T a f => match ev a with
    | some (.val x) => er 25 (fieldAddrE C T x f)
    | _ => .inl [26]
  | .indexAddr T a ix => match ev a, ev ix with
    | some (.val x), some (.val y) => er 27 (indexAddrE C T x y H)
    | _, _ => .inl [28]
  | .index T a ix => match ev a, ev ix with
    | some (.val x), some (.val y) => er 29 (indexE C T x y)
    | _, _ => .inl [30]
  | .field T a f => match ev a with
    | some (.val x) => er 31 (fieldE C T x f)
    | _ => .inl [32]
  | .slice T x lo hi mx => match ev x, mx with
    | some (.val x), none => er 33 (sliceE C T x (lo.map ev) (hi.map ev) H)
    | _, _ => .inl [34]
  | .binOp op T a b _ => match ev a, ev b with
    | some (.val x), some (.val y) => pur 35 (binE C (isConstOp a || isConstOp b) op T x y)
    | _, _ => .inl [36]
  | .unOp op _ a => match ev a with
    | some (.val x) => pur 37 (unE op x)
    | _ => .inl [38]
  | .convert s d a => match ev a with
    | some (.val x) => er 39 (convE C s d x)
    | _ => .inl [40]
  | .extract t ix => match ev t with
    | some (.tup l) => match l[ix]? with
      | some x => .inr (.val x, [], [])
      | none => .inl [41]
    | _ => .inl [42]
  | .makeFunc (.func f) first caps => er 43 (makeFuncE C f (first.toList.map ev) (caps.toList.map ev) H)
  | .makeSlice T l c => match ev l, ev c with
    | some (.val x), some (.val y) => er 44 (makeSliceE C fid T x y)
    | _, _ => .inl [45]
  | .call c => match c.callee with
    | .value f => match nxOp C f with
      | true => .inl [1000005]
      | false => callE C cl fid (ev f) (c.args.toList.map ev) c.argTypes.toList H
    | .builtin b => er 46 (builtinE C fid b c.argTypes.toList (c.args.toList.map ev) H)
    | _ => .inl [47]
  | _ => .inl [48]
theorem opE_ok {C : Ctx} {cl : CL} (hcl : ∀ f a r, cl f a = .inr r → Sat C.P C.gl f a r) {fid : Nat} {o : Oper} {ev : Operand → Option DV} {H : HF} {e : Eff} (h : opE C cl fid o ev H = .inr e) {K : OpK} (hK : K e.1 e.2.1 e.2.2) : opA C fid o ev H K := by
  unfold opE at h; unfold opA
  repeat' split at h
  all_goals first
    | (cases h; done)
    | (obtain ⟨h1, h2, h3⟩ := pur_ok h; rw [h2, h3] at hK; simp only [*]; done)
    | (obtain ⟨h1, h2, h3⟩ := pur_ok h; rw [h2, h3] at hK; simp only [*]; exact binE_ok h1 hK)
    | (obtain ⟨h1, h2, h3⟩ := pur_ok h; rw [h2, h3] at hK; simp only [*]; exact unE_ok h1 hK)
    | (cases h; simp only [*]; done)
    | (cases h
       rename_i hq
       simp only [*]
       split
       · rename_i h2
         cases (h2.symm.trans hq)
         exact hK
       · rename_i h2
         cases (h2.symm.trans hq))
    | (simp only [*]; exact loadE_ok (er_ok h) hK)
    | (simp only [*]; exact storeE_ok (er_ok h) hK)
    | (simp only [*]; exact fieldAddrE_ok (er_ok h) hK)
    | (simp only [*]; exact indexAddrE_ok (er_ok h) hK)
    | (simp only [*]; exact indexE_ok (er_ok h) hK)
    | (simp only [*]; exact fieldE_ok (er_ok h) hK)
    | (simp only [*]; exact sliceE_ok (er_ok h) hK)
    | (simp only [*]; exact convE_ok (er_ok h) hK)
    | (simp only [*]; exact makeFuncE_ok (er_ok h) hK)
    | (simp only [*]; exact makeSliceE_ok (er_ok h) hK)
    | (simp only [*]; exact callE_ok hcl h hK)
    | (simp only [*]; exact builtinE_ok (er_ok h) hK)
def putL (d : Option Tmp) (r : DV) (E : Env) : Env := match d with
  | none => E
  | some d => (d, some r) :: E
def gE (all : List Oper) (E : Env) (o : Oper) : Option Bool := match o.guard with
  | none => some true
  | some (j, want) => match dstAt all j with
    | none => none
    | some g => match E.get g with
      | some (.val (false, [.st (.lit (.bool b))])) => some (match b with
        | true => want
        | false => !want)
      | some (.tup []) => some false
      | _ => none
section
variable {C : Ctx} {all rest : List Oper} {n0 i : Nat} {o : Oper} {E : Env} {H : Hp} {t : Trace} {K : Env → Hp → Nat → Trace → Prop}
theorem opsA_run (hg : gE all E o = some true) (h : runO C (2 * (n0 + i)) o E H t fun E' H' t' => opsA C all n0 rest (i + 1) E' H' t' K) : opsA C all n0 (o :: rest) i E H t K := by
  unfold gE at hg; unfold opsA
  split at hg
  · simp only [*]
  · split at hg
    · cases hg
    · split at hg
      · rename_i b _
        simp only [*]
        unfold guardO
        refine .inl ⟨?_, h⟩
        simp only [Option.some.injEq] at hg
        cases b <;> simp_all
      · cases hg
      · cases hg
theorem opsA_skip (hg : gE all E o = some false) (h : skipO o E H t fun E' H' t' => opsA C all n0 rest (i + 1) E' H' t' K) : opsA C all n0 (o :: rest) i E H t K := by
  unfold gE at hg; unfold opsA
  split at hg
  · cases hg
  · split at hg
    · cases hg
    · split at hg
      · rename_i b _
        simp only [*]
        unfold guardO
        refine .inr (.inl ⟨?_, h⟩)
        simp only [Option.some.injEq] at hg
        cases b <;> simp_all
      · simp only [*]
      · cases hg
end
abbrev CH := Nat → FuncId → List DX → Hp → Sum (List Nat) Eff
structure Callees where
  cl : CL
  ch : CH
structure Callees.Ok (C : Ctx) (q : Callees) : Prop where
  cl : ∀ f a r, q.cl f a = .inr r → Sat C.P C.gl f a r
  ch : ∀ fid f xs (H : Hp) e, q.ch fid f xs H = .inr e → HCall C fid f xs H.get e.1 e.2.1 e.2.2
def okX (C : Ctx) (o : Oper) (ev : Operand → Option DV) (H : HF) : Bool := match o.op with
  | .call c => match c.argTypes.toList, c.args.toList.map ev with
    | [t, _], [some (.val (false, [x])), some (.val (false, [y]))] => match C.ti t with
      | some i => match i.cls with
        | .slice e => match C.ti e with
          | some ie => match deepOf H ie.size y with
            | some (ly, _) => (ly.all fun e => Nat.beq e.length ie.size) && match x with
              | .own id => match H id with
                | some (.rowD _ l) => Nat.ble (l.length + ly.length) LIM
                | _ => false
              | _ => Nat.ble ly.length LIM
            | none => false
          | none => false
        | _ => false
      | none => false
    | _, _ => false
  | .sliceToArrayPointer T x => match C.ti T, ev x with
    | some i, some (.val (false, [.st (.ints l)])) => match i.cls with
      | .array n _ => Nat.ble 1 n && Nat.ble n l.length
      | _ => false
    | _, _ => false
  | _ => true
theorem okX_ok {C : Ctx} {fid : Nat} {o : Oper} {ev : Operand → Option DV} {H : HF} {P : Prop} {r : DV} {u : Hp} {R : List Nat} (h : effX C fid o ev H = some (P, r, u, R)) (hk : okX C o ev H = true) : P := by
  unfold effX at h
  unfold okX at hk
  cases ho : o.op with
  | buildSlice T len parts =>
    rw [ho] at h
    simp only at h
    repeat' split at h
    all_goals first | (cases h; done) | (simp only [Option.some.injEq, Prod.mk.injEq] at h; obtain ⟨rfl, _⟩ := h; trivial)
  | makeMap T m =>
    rw [ho] at h
    cases m <;> simp only at h
    all_goals repeat' split at h
    all_goals first | (cases h; done) | (simp only [Option.some.injEq, Prod.mk.injEq] at h; obtain ⟨rfl, _⟩ := h; trivial)
  | insert T m k v =>
    rw [ho] at h
    simp only at h
    repeat' split at h
    all_goals first | (cases h; done) | (simp only [Option.some.injEq, Prod.mk.injEq] at h; obtain ⟨rfl, _⟩ := h; trivial)
  | mapUpdate T m k v =>
    rw [ho] at h
    simp only at h
    repeat' split at h
    all_goals first | (cases h; done) | (simp only [Option.some.injEq, Prod.mk.injEq] at h; obtain ⟨rfl, _⟩ := h; trivial)
  | lookup T m k ok =>
    rw [ho] at h
    simp only at h
    repeat' split at h
    all_goals first | (cases h; done) | (simp only [Option.some.injEq, Prod.mk.injEq] at h; obtain ⟨rfl, _⟩ := h; trivial)
  | convert src dst x =>
    rw [ho] at h
    simp only at h
    repeat' split at h
    all_goals first | (cases h; done) | (simp only [Option.some.injEq, Prod.mk.injEq] at h; obtain ⟨rfl, _⟩ := h; trivial)
  | call c =>
    rw [ho] at h hk
    simp only at h hk
    have hall : ∀ {l : List (List DC)} {z : Nat}, (l.all fun e => Nat.beq e.length z) = true → ∀ e ∈ l, e.length = z := fun h e he => Nat.eq_of_beq_eq_true (List.all_eq_true.1 h e he)
    split at h
    · rename_i t t' x y hc hts hargs
      rw [hts, hargs] at hk
      simp only at hk
      split at h
      · rename_i i i' hi hi'
        rw [hi] at hk
        simp only at hk
        split at h
        · rename_i e e' hcl hcl'
          rw [hcl] at hk
          simp only at hk
          split at h
          · rename_i ie hie hdp
            rw [hie] at hk
            simp only at hk
            split at h
            · split at h
              · rename_i ly ry hdy
                rw [hdy] at hk
                simp only at hk
                obtain ⟨k1, k2⟩ := ble_and hk
                split at h
                · simp only [Option.some.injEq, Prod.mk.injEq] at h
                  obtain ⟨rfl, _⟩ := h
                  exact ⟨hall k1, Nat.le_of_ble_eq_true k2⟩
                · split at h
                  · rename_i hid
                    simp only [hid] at k2
                    split at h
                    · simp only [Option.some.injEq, Prod.mk.injEq] at h
                      obtain ⟨rfl, _⟩ := h
                      exact ⟨hall k1, Nat.le_of_ble_eq_true k2⟩
                    · cases h
                  · cases h
                · cases h
              · cases h
            · cases h
          · cases h
        · cases h
      · cases h
    · cases h
  | nilCheck x =>
    rw [ho] at h
    simp only at h
    repeat' split at h
    all_goals first | (cases h; done) | (simp only [Option.some.injEq, Prod.mk.injEq] at h; obtain ⟨rfl, _⟩ := h; trivial)
  | slice T x lo hi mx =>
    rw [ho] at h
    cases x <;> cases lo <;> cases hi <;> cases mx <;> simp only at h <;> try (cases h; done)
    repeat' split at h
    all_goals first | (cases h; done) | (simp only [Option.some.injEq, Prod.mk.injEq] at h; obtain ⟨rfl, _⟩ := h; trivial)
  | sliceToArrayPointer T x =>
    rw [ho] at h hk
    simp only at h hk
    split at h
    · rename_i i l hi hl
      rw [hi, hl] at hk
      simp only at hk
      split at h
      · rename_i n e hcl
        rw [hcl] at hk
        simp only [Option.some.injEq, Prod.mk.injEq] at h hk
        obtain ⟨rfl, _⟩ := h
        obtain ⟨k1, k2⟩ := ble_and hk
        exact ⟨Nat.le_of_ble_eq_true k1, Nat.le_of_ble_eq_true k2⟩
      · cases h
    · cases h
  | makeFunc fn first caps =>
    rw [ho] at h
    cases fn <;> simp only at h <;> try (cases h; done)
    repeat' split at h
    all_goals first | (cases h; done) | (simp only [Option.some.injEq, Prod.mk.injEq] at h; obtain ⟨rfl, _⟩ := h; trivial)
  | _ => rw [ho] at h; cases h
def mapKE (f : Bool → DC → Option (SC × List Nat)) : List Bool → List DC → Option (List SC × List Nat)
  | _, [] => some ([], [])
  | ks, d :: ds => match f (ks.headD false) d with
    | some (c, r) => match mapKE f ks.tail ds with
      | some (cs, r') => some (c :: cs, r ++ r')
      | none => none
    | none => none
def flA (c : SC) : SC := match c.flat with
  | true => c
  | false => .any
def mapLE (f : Bool → DC → Option (SC × List Nat)) : List (List DC) → Option (List (List SC) × List Nat)
  | [] => some ([], [])
  | e :: l => match mapKE f [] e with
    | some (cs, r) => match mapLE f l with
      | some (es, r') => some (cs.map flA :: es, r ++ r')
      | none => none
    | none => none
def fullE (C : Ctx) (H : HF) : Nat → Bool → DC → Option (SC × List Nat)
  | 0, _, _ => none
  | n + 1, k, d => match d with
    | .st c => some (c, [])
    | .nil => some (nilOf k, [])
    | .own id => match H id with
      | some (.row _ _ c) => some (c, [id])
      | some (.rowD _ l) => match mapLE (fullE C H n) l with
        | some (es, r) => some (.view es, id :: r)
        | none => none
      | _ => none
    | .ptr id off => match H id with
      | some (.fbox cs) => some (.ref (cs.drop off), [id])
      | some (.box t cs) => match mapKE (fullE C H n) (C.kinds t) cs with
        | some (l, r) => some (.ref (l.drop off), id :: r)
        | none => none
      | _ => none
    | .rptr id z i off => match H id with
      | some (.rowD z' l) => match Nat.beq z z', l[i]? with
        | true, some e => match mapKE (fullE C H n) [] e with
          | some (cs, r) => some (.ref (cs.drop off), id :: r)
          | none => none
        | _, _ => none
      | some (.row _ z' c) => match Nat.beq z z', c.elem i with
        | true, some e => some (.ref (e.drop off), [id])
        | _, _ => none
      | _ => none
    | .mp _ => none
    | .clo _ _ => none
theorem mapKE_ok {H : HF} {R : List Nat} {f : Bool → DC → Option (SC × List Nat)} (hf : ∀ k d c r, f k d = some (c, r) → (∀ id ∈ r, id ∈ R) → Full H R d c) : ∀ {ks : List Bool} {ds : List DC} {cs : List SC} {r : List Nat}, mapKE f ks ds = some (cs, r) → (∀ id ∈ r, id ∈ R) →
    cs.length = ds.length ∧ ∀ (k : Nat) (d : DC) (c : SC), ds[k]? = some d → cs[k]? = some c → Full H R d c
  | ks, [], cs, r, h, _ => by simp only [mapKE, Option.some.injEq, Prod.mk.injEq] at h; obtain ⟨rfl, _⟩ := h; exact ⟨rfl, by simp⟩
  | ks, d :: ds, cs, r, h, hr => by
    simp only [mapKE] at h
    split at h
    · rename_i c r1 h1
      split at h
      · rename_i cs' r2 h2
        simp only [Option.some.injEq, Prod.mk.injEq] at h
        obtain ⟨rfl, rfl⟩ := h
        obtain ⟨g1, g2⟩ := mapKE_ok hf h2 fun id hi => hr id (List.mem_append.2 (.inr hi))
        refine ⟨by simp [g1], fun k d' c' hd hc => ?_⟩
        cases k with
        | zero => simp at hd hc; subst hd; subst hc; exact hf _ _ _ _ h1 fun id hi => hr id (List.mem_append.2 (.inl hi))
        | succ k => exact g2 k d' c' (by simpa using hd) (by simpa using hc)
      · cases h
    · cases h
theorem flA_flat (c : SC) : (flA c).flat = true := by
  unfold flA
  split
  · assumption
  · rfl
theorem Full.flA {H : HF} {R : List Nat} {d : DC} {c : SC} (h : Full H R d c) : Full H R d (flA c) := by
  unfold Fw.flA
  split
  · exact h
  · exact .any d
theorem mapLE_ok {H : HF} {R : List Nat} {f : Bool → DC → Option (SC × List Nat)} (hf : ∀ k d c r, f k d = some (c, r) → (∀ id ∈ r, id ∈ R) → Full H R d c) : ∀ {l : List (List DC)} {es : List (List SC)} {r : List Nat}, mapLE f l = some (es, r) → (∀ id ∈ r, id ∈ R) →
    es.length = l.length ∧ (∀ (i : Nat) (e : List DC) (e' : List SC), l[i]? = some e → es[i]? = some e' → e'.length = e.length ∧ ∀ (k : Nat) (d : DC) (c : SC), e[k]? = some d → e'[k]? = some c → Full H R d c) ∧
    ∀ (i : Nat) (e' : List SC) (k : Nat) (c : SC), es[i]? = some e' → e'[k]? = some c → c.flat = true
  | [], es, r, h, _ => by simp only [mapLE, Option.some.injEq, Prod.mk.injEq] at h; obtain ⟨rfl, _⟩ := h; exact ⟨rfl, by simp, by simp⟩
  | e :: l, es, r, h, hr => by
    simp only [mapLE] at h
    split at h
    · rename_i cs r1 h1
      split at h
      · rename_i es' r2 h2
        simp only [Option.some.injEq, Prod.mk.injEq] at h
        obtain ⟨rfl, rfl⟩ := h
        obtain ⟨g1, g2, g3⟩ := mapLE_ok hf h2 fun id hi => hr id (List.mem_append.2 (.inr hi))
        obtain ⟨k1, k2⟩ := mapKE_ok hf h1 fun id hi => hr id (List.mem_append.2 (.inl hi))
        refine ⟨by simp [g1], fun i d' c' hd hc => ?_, fun i e' k c hi hc => ?_⟩
        · cases i with
          | zero =>
            simp at hd hc; subst hd; subst hc
            refine ⟨by simp [k1], fun k d c h1 h2 => ?_⟩
            rw [List.getElem?_map, Option.map_eq_some_iff] at h2
            obtain ⟨c0, hc0, rfl⟩ := h2
            exact (k2 k d c0 h1 hc0).flA
          | succ i => exact g2 i d' c' (by simpa using hd) (by simpa using hc)
        · cases i with
          | zero =>
            simp at hi; subst hi
            rw [List.getElem?_map, Option.map_eq_some_iff] at hc
            obtain ⟨c0, _, rfl⟩ := hc
            exact flA_flat c0
          | succ i => exact g3 i e' k c (by simpa using hi) hc
      · cases h
    · cases h
theorem fullE_ok {C : Ctx} {H : HF} {R : List Nat} : ∀ (n : Nat) (k : Bool) (d : DC) (c : SC) (r : List Nat), fullE C H n k d = some (c, r) → (∀ id ∈ r, id ∈ R) → Full H R d c
  | 0, _, _, _, _, h, _ => by cases h
  | n + 1, k, d, c, r, h, hr => by
    have ih := fullE_ok (C := C) (H := H) (R := R) n
    unfold fullE at h
    split at h
    · simp only [Option.some.injEq, Prod.mk.injEq] at h; obtain ⟨rfl, rfl⟩ := h; exact .st _
    · simp only [Option.some.injEq, Prod.mk.injEq] at h; obtain ⟨rfl, rfl⟩ := h; exact .nil _
    · split at h
      · rename_i e
        simp only [Option.some.injEq, Prod.mk.injEq] at h; obtain ⟨rfl, rfl⟩ := h
        exact .row (hr _ (by simp)) e
      · rename_i e
        split at h
        · rename_i es r1 h1
          simp only [Option.some.injEq, Prod.mk.injEq] at h; obtain ⟨rfl, rfl⟩ := h
          obtain ⟨g1, g2, g3⟩ := mapLE_ok ih h1 fun id hi => hr id (List.mem_cons_of_mem _ hi)
          exact .rowD (hr _ (by simp)) e g1 (fun i e e' a b => (g2 i e e' a b).1) (fun i e e' k d c a b => (g2 i e e' a b).2 k d c) g3
        · cases h
      · cases h
    · split at h
      · rename_i e
        simp only [Option.some.injEq, Prod.mk.injEq] at h; obtain ⟨rfl, rfl⟩ := h
        exact .fbox (hr _ (by simp)) e
      · rename_i e
        split at h
        · rename_i l r1 h1
          simp only [Option.some.injEq, Prod.mk.injEq] at h; obtain ⟨rfl, rfl⟩ := h
          obtain ⟨g1, g2⟩ := mapKE_ok ih h1 fun id hi => hr id (List.mem_cons_of_mem _ hi)
          exact .box (hr _ (by simp)) e g1 g2
        · cases h
      · cases h
    · split at h
      · rename_i e
        split at h
        · rename_i hz hi
          have hz := Nat.eq_of_beq_eq_true hz
          subst hz
          split at h
          · rename_i cs r1 h1
            simp only [Option.some.injEq, Prod.mk.injEq] at h; obtain ⟨rfl, rfl⟩ := h
            obtain ⟨g1, g2⟩ := mapKE_ok ih h1 fun id hi => hr id (List.mem_cons_of_mem _ hi)
            exact .elemD (hr _ (by simp)) e hi g1 g2
          · cases h
        · cases h
      · rename_i e
        split at h
        · rename_i hz hi
          have hz := Nat.eq_of_beq_eq_true hz
          subst hz
          simp only [Option.some.injEq, Prod.mk.injEq] at h; obtain ⟨rfl, rfl⟩ := h
          exact .elemR (hr _ (by simp)) e hi
        · cases h
      · cases h
    · cases h
    · cases h
def fullA (C : Ctx) (H : HF) : List TypeId → List DX → Option (List SV × List Nat)
  | _, [] => some ([], [])
  | ts, x :: xs => match mapKE (fullE C H 6) (C.kinds (ts.headD 0)) x.2 with
    | some (c, r) => match fullA C H ts.tail xs with
      | some (cs, r') => some ((x.1, c) :: cs, r ++ r')
      | none => none
    | none => none
theorem fullA_ok {C : Ctx} {H : HF} {R : List Nat} : ∀ {ts : List TypeId} {xs : List DX} {l : List SV} {r : List Nat}, fullA C H ts xs = some (l, r) → (∀ id ∈ r, id ∈ R) → FullA H R xs l
  | ts, [], l, r, h, _ => by simp only [fullA, Option.some.injEq, Prod.mk.injEq] at h; obtain ⟨rfl, _⟩ := h; exact ⟨rfl, by simp⟩
  | ts, x :: xs, l, r, h, hr => by
    simp only [fullA] at h
    split at h
    · rename_i c r1 h1
      split at h
      · rename_i cs r2 h2
        simp only [Option.some.injEq, Prod.mk.injEq] at h
        obtain ⟨rfl, rfl⟩ := h
        obtain ⟨g1, g2⟩ := fullA_ok h2 fun id hi => hr id (List.mem_append.2 (.inr hi))
        obtain ⟨k1, k2⟩ := mapKE_ok (fullE_ok (C := C) (H := H) (R := R) 6) h1 fun id hi => hr id (List.mem_append.2 (.inl hi))
        refine ⟨by simp [g1], fun k a b ha hb => ?_⟩
        cases k with
        | zero => simp at ha hb; subst ha; subst hb; exact ⟨rfl, k1, k2⟩
        | succ k => exact g2 k a b (by simpa using ha) (by simpa using hb)
      · cases h
    · cases h
def litRowE : SC → Bool
  | .ints _ => true
  | .view es => es.all fun e => e.all fun c => match c with | .lit _ => true | _ => false
  | _ => false
theorem litRowE_ok {c : SC} (h : litRowE c = true) : litRow c := by
  intro i e k x he hx
  cases c with
  | ints xs =>
    simp only [SC.elem, Option.map_eq_some_iff] at he
    obtain ⟨n, _, rfl⟩ := he
    cases k with
    | zero => simp at hx; exact ⟨_, hx.symm⟩
    | succ k => simp at hx
  | view es =>
    have h1 := List.all_eq_true.1 h e (List.mem_of_getElem? he)
    have h2 := List.all_eq_true.1 h1 x (List.mem_of_getElem? hx)
    cases x <;> first | exact ⟨_, rfl⟩ | cases h2
  | _ => cases h
def memFreeE : Res → Bool
  | .one x => memFreeX x
  | .tup l => l.all memFreeX
  | .own _ c => litRowE c
  | _ => false
theorem memFreeE_ok {r : Res} (h : memFreeE r = true) : memFree r := by
  cases r with
  | one x => exact h
  | tup l => exact fun x hx => List.all_eq_true.1 h x hx
  | own z c => exact litRowE_ok h
  | _ => cases h
def callFE (C : Ctx) (cl : CL) (fid : Nat) (f : FuncId) (xs : List DX) (ats : List TypeId) (H : HF) : Sum (List Nat) Eff :=
  match fullA C H ats xs with
  | some (l, R) => match cl f l with
    | .inr r => match memFreeE r with
      | true => resE fid [] R r
      | false => .inl [f, 1000021]
    | .inl p => .inl p
  | none => .inl [f, 1000022]
theorem callFE_ok {C : Ctx} {cl : CL} (hcl : ∀ f a r, cl f a = .inr r → Sat C.P C.gl f a r) {fid : Nat} {f : FuncId} {xs : List DX} {ats : List TypeId} {H : HF} {e : Eff} (h : callFE C cl fid f xs ats H = .inr e) : HCall C fid f xs H e.1 e.2.1 e.2.2 := by
  unfold callFE at h
  split at h
  · rename_i l R hl
    split at h
    · rename_i r hr
      split at h
      · rename_i hm
        have hk : resK fid [] R (fun a b c => a = e.1 ∧ b = e.2.1 ∧ c = R) r ∧ e.2.2 = R := by
          cases r with
          | one x => simp only [resE, Sum.inr.injEq] at h; subst h; exact ⟨⟨rfl, rfl, rfl⟩, rfl⟩
          | tup l => simp only [resE, Sum.inr.injEq] at h; subst h; exact ⟨⟨rfl, rfl, rfl⟩, rfl⟩
          | own z c => simp only [resE, Sum.inr.injEq] at h; subst h; exact ⟨⟨rfl, rfl, rfl⟩, rfl⟩
          | _ => cases hm
        rw [hk.2]
        exact HCall_mf (fullA_ok hl fun _ h => h) (hcl f l r hr) (memFreeE_ok hm) hk.1
      · cases h
    · cases h
  · cases h
def posIn (g : Nat) (p : String) : List (Nat × String) → Bool
  | [] => false
  | (x, y) :: l => match Nat.beq g x with
    | true => match decide (p = y) with
      | true => true
      | false => posIn g p l
    | false => posIn g p l
def isFull (C : Ctx) (g : Nat) (o : Oper) : Bool := natIn g C.fx || posIn g o.pos C.sx
def opTypes (o : Oper) (first : List SV) : List TypeId := first.map (fun _ => 0) ++ match o.op with
  | .call c => c.argTypes.toList
  | _ => []
def isMF : Op → Bool
  | .makeFunc .. => true
  | _ => false
def effXm (C : Ctx) (fid : Nat) (o : Oper) (ev : Operand → Option DV) (H : HF) := match isMF o.op with
  | true => none
  | false => effX C fid o ev H
def opEH (C : Ctx) (q : Callees) (fid : Nat) (o : Oper) (ev : Operand → Option DV) (H : Hp) : Sum (List Nat) Eff :=
  match hxCall ev o with
  | some (g, first, caps, xs) => match isFull C g o with
    | true => callFE C q.cl fid g (first.map dyn ++ xs ++ caps.map fun cs => (false, [.st (.ref cs)])) (opTypes o first) H.get
    | false => match natIn g C.hx with
      | true => q.ch fid g (first.map dyn ++ xs ++ caps.map fun cs => (false, [.st (.ref cs)])) H
      | false => opE C q.cl fid o ev H.get
  | none => match effXm C fid o ev H.get with
    | some (_, r, u, R) => match okX C o ev H.get with
      | true => .inr (r, u, R)
      | false => .inl [1000020]
    | none => opE C q.cl fid o ev H.get
theorem opEH_ok {C : Ctx} {q : Callees} (hq : q.Ok C) {fid : Nat} {o : Oper} {ev : Operand → Option DV} {H : Hp} {e : Eff} (h : opEH C q fid o ev H = .inr e) {K : OpK} (hK : K e.1 e.2.1 e.2.2) : opH C fid o ev H.get K := by
  unfold opEH at h
  split at h
  · rename_i g first caps xs hx
    split at h
    · refine .inr (.inr ?_)
      unfold hcA
      rw [hx]
      exact ⟨e.1, e.2.1, e.2.2, callFE_ok hq.cl h, hK⟩
    · split at h
      · refine .inr (.inr ?_)
        unfold hcA
        rw [hx]
        exact ⟨e.1, e.2.1, e.2.2, hq.ch _ _ _ _ _ h, hK⟩
      · exact .inl (opE_ok hq.cl h hK)
  · split at h
    · rename_i P r u R he
      split at h
      · rename_i hk
        cases h
        have he : effX C fid o ev H.get = some (P, r, u, R) := by
          unfold effXm at he
          split at he
          · cases he
          · exact he
        refine .inr (.inl ?_)
        unfold opX
        rw [he]
        exact ⟨okX_ok he hk, hK⟩
      · cases h
    · exact .inl (opE_ok hq.cl h hK)
def opsE (C : Ctx) (q : Callees) (all : List Oper) (n0 : Nat) : List Oper → Nat → Env → Hp → Trace → Sum (List Nat) (Env × Hp × Nat × Trace)
  | [], i, E, H, t => .inr (E, H, i, t)
  | o :: rest, i, E, H, t => match gE all E o with
    | none => .inl [i, 1000001]
    | some true => match opEH C q (2 * (n0 + i)) o (C.ev E.get) H with
      | .inl p => .inl (i :: p)
      | .inr (r, u, R) => opsE C q all n0 rest (i + 1) (putL o.dst r E) (u ++ H) ((R, u.map Prod.fst) :: t)
    | some false => opsE C q all n0 rest (i + 1) (putL o.dst (.tup []) E) H (([], []) :: t)
theorem putL_eq {d : Option Tmp} {r : DV} {E : Env} : putL d r E = putE d r E := by cases d <;> rfl
theorem opsE_ok {C : Ctx} {q : Callees} (hq : q.Ok C) {all : List Oper} {n0 : Nat} {rest : List Oper} : ∀ {i : Nat} {E : Env} {H : Hp} {t : Trace} {E' : Env} {H' : Hp} {n : Nat} {t' : Trace},
    opsE C q all n0 rest i E H t = .inr (E', H', n, t') → ∀ {K : Env → Hp → Nat → Trace → Prop}, K E' H' n t' → opsA C all n0 rest i E H t K := by
  induction rest with
  | nil => intro i E H t E' H' n t' h K hK; simp only [opsE, Sum.inr.injEq, Prod.mk.injEq] at h; obtain ⟨rfl, rfl, rfl, rfl⟩ := h; exact hK
  | cons o rest ih =>
    intro i E H t E' H' n t' h K hK
    unfold opsE at h
    split at h
    · cases h
    · rename_i hg
      refine opsA_run hg ?_
      split at h
      · cases h
      · rename_i r u R hr
        unfold runO
        refine opEH_ok hq hr ?_
        rw [appK_iff, putK_iff, ← putL_eq]
        exact ih h hK
    · rename_i hg
      refine opsA_skip hg ?_
      unfold skipO
      rw [putK_iff, ← putL_eq]
      exact ih h hK
def sealOne (C : Ctx) (S : St) (x : Operand) : St := match S with
  | ⟨E, H, nx⟩ => match C.ev E.get x with
    | some (.val (false, [.ptr id 0])) => match H.get id with
      | some (.box t cs) => match stat1L H.get (C.kinds t) cs with
        | some (l, u, _) => ⟨E, ((id, some (.fbox l)) :: u) ++ H, nx⟩
        | none => ⟨E, H, nx⟩
      | _ => ⟨E, H, nx⟩
    | _ => ⟨E, H, nx⟩
theorem sealOne_sub (C : Ctx) (S : St) (x : Operand) : Sub S (sealOne C S x) := by
  unfold sealOne
  repeat' split
  all_goals first | exact Sub.refl _ | (exact seal_sub C _ (by assumption) (by assumption))
def sealAll (C : Ctx) : List Operand → St → St
  | [], S => S
  | x :: l, S => sealAll C l (sealOne C S x)
theorem sealAll_sub (C : Ctx) (l : List Operand) : ∀ S, Sub S (sealAll C l S) := by
  induction l with
  | nil => exact fun S => Sub.refl S
  | cons x l ih => exact fun S => (sealOne_sub C S x).trans (ih _)
def seal1 (C : Ctx) (S : St) (o : Oper) : St := match o.op with
  | .slice T x none none none => match C.ti T with
    | some i => match i.cls with
      | .array _ _ => sealOne C S x
      | _ => S
    | none => S
  | .makeFunc _ _ caps => sealAll C caps.toList S
  | _ => S
theorem seal1_sub (C : Ctx) (S : St) (o : Oper) : Sub S (seal1 C S o) := by
  unfold seal1
  repeat' split
  all_goals first | exact Sub.refl _ | exact sealOne_sub C _ _ | exact sealAll_sub C _ _
theorem freeze_sub0 {E : Env} {Hh : Hp} {nx : Nat} (id : Nat) {m : Bool} {z : Nat} {c : SC} (hb : Hh.get id = some (.row m z c)) : Sub ⟨E, Hh, nx⟩ ⟨E, (id, some (.row false z c)) :: Hh, nx⟩ := by
  rintro F nt a w ⟨N, ⟨q1, q2, q0, β, q3, q4⟩, q5⟩
  have hg : Give { P := default, gl := [], ty := [] } Hh.get [(id, some (.row false z c))] := Give.of_freeze fun p hp => by
    rw [List.mem_singleton] at hp; subst hp
    exact ⟨m, z, c, hb, rfl⟩
  have ht : Tr F β N Hh.get w β N (Hp.on [(id, some (.row false z c))] Hh.get) w := hg.soft.tr
  refine ⟨N, ⟨q1, q2, q0, β, ?_, ?_⟩, q5⟩
  · have := ht.env q4 q3
    rwa [← Hp.get_append] at this
  · have := hg.heap q4
    rwa [← Hp.get_append] at this
def srcOf (all : List Oper) : Nat → Tmp → Tmp
  | 0, s => s
  | n + 1, s => match all.find? fun o => match o.dst with | some d => Nat.beq d s | none => false with
    | some o => match o.op with
      | .move (.tmp s') => srcOf all n s'
      | _ => s
    | none => s
def sealRow (_C : Ctx) (all : List Oper) (S : St) (o : Oper) : St := match S with
  | ⟨E, H, nx⟩ => match o.op with
    | .slice _ (.tmp s) _ _ none => match E.get (srcOf all 4 s) with
      | some (.val (false, [.own id])) => match H.get id with
        | some (.row true z c) => ⟨E, (id, some (.row false z c)) :: H, nx⟩
        | _ => ⟨E, H, nx⟩
      | _ => ⟨E, H, nx⟩
    | _ => ⟨E, H, nx⟩
theorem sealRow_sub (C : Ctx) (all : List Oper) (S : St) (o : Oper) : Sub S (sealRow C all S o) := by
  unfold sealRow
  repeat' split
  all_goals first | exact Sub.refl _ | exact freeze_sub0 _ (by assumption)
def sealRows (C : Ctx) (all : List Oper) : List Oper → St → St
  | [], S => S
  | o :: l, S => sealRows C all l (sealRow C all S o)
theorem sealRows_sub (C : Ctx) (all l : List Oper) : ∀ S, Sub S (sealRows C all l S) := by
  induction l with
  | nil => exact fun S => Sub.refl S
  | cons o l ih => exact fun S => (sealRow_sub C all S o).trans (ih _)
def sealL0 (C : Ctx) : List Oper → St → St
  | [], S => S
  | o :: l, S => sealL0 C l (seal1 C S o)
theorem sealL0_sub (C : Ctx) (l : List Oper) : ∀ S, Sub S (sealL0 C l S) := by
  induction l with
  | nil => exact fun S => Sub.refl S
  | cons o l ih => exact fun S => (seal1_sub C S o).trans (ih _)
def sealL (C : Ctx) (l : List Oper) (S : St) : St := sealRows C l l (sealL0 C l S)
theorem sealL_sub (C : Ctx) (l : List Oper) (S : St) : Sub S (sealL C l S) := (sealL0_sub C l S).trans (sealRows_sub C l l _)
def firstOps : Code → List Oper
  | .region _ ops _ => ops.toList
  | .seq x _ => firstOps x
  | .scope c => firstOps c
  | .block _ c => firstOps c
  | _ => []
theorem aSs {C : Ctx} {S : St} {kn : St → Prop} {kx : Nat → St → Prop} {kr : St → Prop} {x y : Code} (h : Awp C x S (fun S => Awp C y (sealL C (firstOps y) S) kn kx kr) kx kr) : Awp C (.seq x y) S kn kx kr :=
  awp_seqw ⟨awp_mono h.out (fun S' h => ⟨_, sealL_sub C _ S', h⟩) (fun _ _ h => h) fun _ h => h⟩
inductive EO where
  | norm (S : St)
  | exit (id : Nat) (S : St)
  | ret (S : St)
  | bad (p : List Nat)
def loopE (body : St → EO) : Nat → St → EO
  | 0, _ => .bad [1000004]
  | n + 1, S => match body S with
    | .norm S' => loopE body n S'
    | o => o
def codeE (C : Ctx) (q : Callees) (fuel : Nat) : Code → St → EO
  | .skip, S => .norm S
  | .label _, S => .norm S
  | .ret, S => .ret S
  | .exit id, S => .exit id S
  | .seq x y, S => match codeE C q fuel x S with
    | .norm S' => codeE C q fuel y (sealL C (firstOps y) S')
    | o => o
  | .cond c x y, S => match C.ev S.env.get c with
    | some (.val (false, [.st (.lit (.bool b))])) => match b with
      | true => codeE C q fuel x S
      | false => codeE C q fuel y S
    | _ => .bad [1000005]
  | .block id c, S => match codeE C q fuel c S with
    | .exit id' S' => match Nat.beq id' id with
      | true => .norm S'
      | false => .exit id' S'
    | o => o
  | .loop c, S => loopE (fun S => codeE C q fuel c S) fuel S
  | .region id ops draw, S => match S with
    | ⟨E, H, nx⟩ => match opsE C q ops.toList nx ops.toList 0 E H [] with
      | .inl p => .bad (id :: p)
      | .inr (E', H', n, t) => match draw with
        | false => .norm ⟨E', H', nx + n⟩
        | true => match drawOk ops.toList t with
          | true => .norm ⟨E', H', nx + n⟩
          | false => .bad [id, 1000006]
  | .scope c, S => codeE C q fuel c S
  | _, _ => .bad [1000007]
def EO.holds (C : Ctx) (c : Code) (S : St) : EO → Prop
  | .norm S' => ∀ {kn : St → Prop} {kx : Nat → St → Prop} {kr : St → Prop}, kn S' → awp C c S kn kx kr
  | .exit id S' => ∀ {kn : St → Prop} {kx : Nat → St → Prop} {kr : St → Prop}, kx id S' → awp C c S kn kx kr
  | .ret S' => ∀ {kn : St → Prop} {kx : Nat → St → Prop} {kr : St → Prop}, kr S' → awp C c S kn kx kr
  | .bad _ => True
def EO.loops (C : Ctx) (c : Code) (S : St) : EO → Prop
  | .norm _ => True
  | .exit id S' => ∀ {kx : Nat → St → Prop} {kr : St → Prop}, kx id S' → LFP (fun Z S => awp C c S Z kx kr) S
  | .ret S' => ∀ {kx : Nat → St → Prop} {kr : St → Prop}, kr S' → LFP (fun Z S => awp C c S Z kx kr) S
  | .bad _ => True
theorem loopE_ok {C : Ctx} {c : Code} {body : St → EO} (hb : ∀ S, (body S).holds C c S) : ∀ (n : Nat) (S : St), (loopE body n S).loops C c S ∧ ∀ S', loopE body n S ≠ .norm S' := by
  intro n
  induction n with
  | zero => intro S; exact ⟨trivial, fun S' h => by cases h⟩
  | succ n ih =>
    intro S
    have h := hb S
    unfold loopE
    cases e : body S with
    | norm S' =>
      rw [e] at h
      obtain ⟨h1, h2⟩ := ih S'
      refine ⟨?_, h2⟩
      simp only
      cases e2 : loopE body n S' with
      | norm => trivial
      | bad => trivial
      | exit id S2 => rw [e2] at h1; intro kx kr hk; exact LFP_sub (h (h1 hk))
      | ret S2 => rw [e2] at h1; intro kx kr hk; exact LFP_sub (h (h1 hk))
    | exit id S' => rw [e] at h; exact ⟨fun hk => LFP_sub (h hk), fun S' h => by cases h⟩
    | ret S' => rw [e] at h; exact ⟨fun hk => LFP_sub (h hk), fun S' h => by cases h⟩
    | bad => exact ⟨trivial, fun S' h => by cases h⟩
theorem codeE_ok {C : Ctx} {q : Callees} (hq : q.Ok C) {fuel : Nat} {c : Code} : ∀ S, (codeE C q fuel c S).holds C c S := by
  induction c with
  | skip => intro S kn kx kr h; exact h
  | label l => intro S kn kx kr h; exact h
  | ret => intro S kn kx kr h; exact h
  | exit id => intro S kn kx kr h; exact h
  | seq x y ihx ihy =>
    intro S
    have h := ihx S
    unfold codeE
    cases e : codeE C q fuel x S with
    | norm S' =>
      rw [e] at h
      have h2 := ihy (sealL C (firstOps y) S')
      simp only
      cases e2 : codeE C q fuel y (sealL C (firstOps y) S') with
      | bad => trivial
      | norm S2 => rw [e2] at h2; intro kn kx kr hk; exact h ⟨_, sealL_sub C _ S', h2 hk⟩
      | exit id S2 => rw [e2] at h2; intro kn kx kr hk; exact h ⟨_, sealL_sub C _ S', h2 hk⟩
      | ret S2 => rw [e2] at h2; intro kn kx kr hk; exact h ⟨_, sealL_sub C _ S', h2 hk⟩
    | exit id S' => rw [e] at h; intro kn kx kr hk; exact h hk
    | ret S' => rw [e] at h; intro kn kx kr hk; exact h hk
    | bad => trivial
  | cond c x y ihx ihy =>
    intro S
    unfold codeE
    split
    · rename_i b hb
      cases b
      · have h := ihy S
        simp only
        cases e : codeE C q fuel y S with
        | bad => trivial
        | norm S2 => rw [e] at h; intro kn kx kr hk; unfold awp; simp only [hb]; exact brn_false (h hk)
        | exit id S2 => rw [e] at h; intro kn kx kr hk; unfold awp; simp only [hb]; exact brn_false (h hk)
        | ret S2 => rw [e] at h; intro kn kx kr hk; unfold awp; simp only [hb]; exact brn_false (h hk)
      · have h := ihx S
        simp only
        cases e : codeE C q fuel x S with
        | bad => trivial
        | norm S2 => rw [e] at h; intro kn kx kr hk; unfold awp; simp only [hb]; exact brn_true (h hk)
        | exit id S2 => rw [e] at h; intro kn kx kr hk; unfold awp; simp only [hb]; exact brn_true (h hk)
        | ret S2 => rw [e] at h; intro kn kx kr hk; unfold awp; simp only [hb]; exact brn_true (h hk)
    · trivial
  | block id c ih =>
    intro S
    have h := ih S
    unfold codeE
    cases e : codeE C q fuel c S with
    | norm S' => rw [e] at h; intro kn kx kr hk; exact h hk
    | exit id' S' =>
      rw [e] at h
      simp only
      cases eb : Nat.beq id' id
      · intro kn kx kr hk; refine h ?_; simp only [eb]; exact hk
      · intro kn kx kr hk; refine h ?_; simp only [eb]; exact hk
    | ret S' => rw [e] at h; intro kn kx kr hk; exact h hk
    | bad => trivial
  | loop c ih =>
    intro S
    obtain ⟨h1, h2⟩ := loopE_ok (fun S => ih S) fuel S
    unfold codeE
    cases e : loopE (fun S => codeE C q fuel c S) fuel S with
    | norm S' => exact absurd e (h2 S')
    | exit id S' => rw [e] at h1; intro kn kx kr hk; exact ⟨S, Sub.refl _, h1 hk⟩
    | ret S' => rw [e] at h1; intro kn kx kr hk; exact ⟨S, Sub.refl _, h1 hk⟩
    | bad => trivial
  | region id ops draw =>
    intro S
    obtain ⟨E, H, nx⟩ := S
    unfold codeE
    simp only
    split
    · trivial
    · rename_i E' H' n t hr
      cases draw
      · intro kn kx kr hk; exact opsE_ok hq hr hk
      · simp only
        cases hd : drawOk ops.toList t
        · trivial
        · intro kn kx kr hk; exact opsE_ok hq hr ⟨hd, hk⟩
  | scope c ih =>
    intro S
    have h := ih S
    unfold codeE
    cases e : codeE C q fuel c S with
    | norm S' => rw [e] at h; intro kn kx kr hk; exact h hk
    | exit id' S' => rw [e] at h; intro kn kx kr hk; exact h hk
    | ret S' => rw [e] at h; intro kn kx kr hk; exact h hk
    | bad => trivial
  | rangeFunc => intro S; unfold codeE; trivial
  | goto => intro S; unfold codeE; trivial
  | refuse => intro S; unfold codeE; trivial
def resVarsE (C : Ctx) (H : HF) (E : EF) : List ResultVar → Option (List DX)
  | [] => some []
  | .tmp t :: rs => match E t with
    | some (.val x) => match resVarsE C H E rs with
      | some xs => some (x :: xs)
      | none => none
    | _ => none
  | .cell a t :: rs => match E a with
    | some (.val x) => match loadE C t x H with
      | some (.val y, [], _) => match resVarsE C H E rs with
        | some xs => some (y :: xs)
        | none => none
      | _ => none
    | _ => none
theorem resVarsE_ok {C : Ctx} {H : HF} {E : EF} {rs : List ResultVar} : ∀ {xs : List DX}, resVarsE C H E rs = some xs → ∀ {K : List DX → Prop}, K xs → resVars C H E rs K := by
  induction rs with
  | nil => intro xs h K hK; simp only [resVarsE, Option.some.injEq] at h; subst h; exact hK
  | cons r rs ih =>
    intro xs h K hK
    cases r with
    | tmp t =>
      unfold resVarsE at h; unfold resVars
      split at h
      · rename_i hx
        split at h
        · rename_i hxs
          cases h
          simp only [hx]; exact ih hxs hK
        · cases h
      · cases h
    | cell a t =>
      unfold resVarsE at h; unfold resVars
      split at h
      · rename_i hx
        split at h
        · rename_i hl
          split at h
          · rename_i hxs
            cases h
            simp only [hx]
            refine loadE_ok hl ?_
            exact ih hxs hK
          · cases h
        · cases h
      · cases h
def retXE (C : Ctx) (H : HF) (ts : List TypeId) (xs : List DX) : Option Res := match ownOf H xs with
  | some (z, c) => some (.own z c)
  | none => match statA C H ts xs with
    | some (l, _, _) => match allFlat l with
      | true => match l with
        | [y] => some (.one y)
        | l => some (.tup l)
      | false => match allWeak l with
        | true => match l with
          | [y] => some (.one (weakX y))
          | l => some (.tup (l.map weakX))
        | false => none
    | none => none
theorem retXE_ok {C : Ctx} {H : HF} {ts : List TypeId} {xs : List DX} {r : Res} (h : retXE C H ts xs = some r) {K : Res → Prop} (hK : K r) : retX C H ts xs K := by
  unfold retXE at h; unfold retX
  repeat' split at h
  all_goals first | (cases h; done) | (cases h; simp only [*]; done) | (cases h; simp only [*, and_self, true_and, and_true, Option.some.injEq, exists_eq_left', exists_eq_left]; simp only [*, and_self, true_and, and_true, Option.some.injEq, exists_eq_left', exists_eq_left]; done)
def retE (C : Ctx) (fn : Func) (S : St) : Option Res := match resVarsE C S.hp.get S.env.get fn.results.toList with
  | some xs => retXE C S.hp.get fn.resultTypes.toList xs
  | none => none
theorem retE_ok {C : Ctx} {fn : Func} {S : St} {r : Res} (h : retE C fn S = some r) {K : Res → Prop} (hK : K r) : retA C fn S K := by
  unfold retE at h; unfold retA
  split at h
  · rename_i hx; exact resVarsE_ok hx (retXE_ok h hK)
  · cases h
def idsC : List DC → List Nat
  | [] => []
  | .ptr id _ :: l => id :: idsC l
  | .own id :: l => id :: idsC l
  | .rptr id _ _ _ :: l => id :: idsC l
  | .mp id :: l => id :: idsC l
  | .clo _ id :: l => id :: idsC l
  | _ :: l => idsC l
def idsL : List (List DC) → List Nat
  | [] => []
  | e :: l => idsC e ++ idsL l
def idsX : List DX → List Nat
  | [] => []
  | x :: l => idsC x.2 ++ idsX l
def idsB : Option Blk → List Nat
  | some (.box _ cs) => idsC cs
  | some (.rowD _ l) => idsL l
  | _ => []
def reach (H : Hp) : Nat → List Nat → List Nat → List Nat
  | 0, _, seen => seen
  | _ + 1, [], seen => seen
  | n + 1, i :: todo, seen => match natIn i seen with
    | true => reach H n todo seen
    | false => reach H n (idsB (H.get i) ++ todo) (i :: seen)
def mentCB (p : Nat → Bool) : List DC → Bool
  | [] => true
  | .ptr id _ :: l => p id && mentCB p l
  | .own id :: l => p id && mentCB p l
  | .rptr id _ _ _ :: l => p id && mentCB p l
  | .mp id :: l => p id && mentCB p l
  | .clo _ id :: l => p id && mentCB p l
  | _ :: l => mentCB p l
def mentLB (p : Nat → Bool) : List (List DC) → Bool
  | [] => true
  | e :: l => mentCB p e && mentLB p l
def mentXB (p : Nat → Bool) : List DX → Bool
  | [] => true
  | x :: l => mentCB p x.2 && mentXB p l
def mentBB (p : Nat → Bool) : Blk → Bool
  | .box _ cs => mentCB p cs
  | .rowD _ l => mentLB p l
  | _ => true
def mentHB (p : Nat → Bool) : Hp → Bool
  | [] => true
  | (_, some b) :: H => mentBB p b && mentHB p H
  | (_, none) :: H => mentHB p H
theorem mentCB_ok {p : Nat → Bool} : ∀ {l : List DC}, mentCB p l = true → ∀ d ∈ l, d.ment fun i => p i = true
  | [], _, d, hd => by cases hd
  | c :: l, h, d, hd => by
    have split2 : c.ment (fun i => p i = true) ∧ mentCB p l = true := by
      cases c <;> simp only [mentCB] at h <;> first | exact ⟨trivial, h⟩ | exact ble_and h
    rcases List.mem_cons.1 hd with rfl | hd
    · exact split2.1
    · exact mentCB_ok split2.2 d hd
theorem mentLB_ok {p : Nat → Bool} : ∀ {l : List (List DC)}, mentLB p l = true → ∀ e ∈ l, ∀ d ∈ e, d.ment fun i => p i = true
  | [], _, d, hd => by cases hd
  | c :: l, h, e, he => by
    obtain ⟨h1, h2⟩ := ble_and (a := mentCB p c) (b := mentLB p l) h
    rcases List.mem_cons.1 he with rfl | he
    · exact mentCB_ok h1
    · exact mentLB_ok h2 e he
theorem mentXB_ok {p : Nat → Bool} : ∀ {l : List DX}, mentXB p l = true → ∀ x ∈ l, mentX (fun i => p i = true) x
  | [], _, d, hd => by cases hd
  | c :: l, h, e, he => by
    obtain ⟨h1, h2⟩ := ble_and (a := mentCB p c.2) (b := mentXB p l) h
    rcases List.mem_cons.1 he with rfl | he
    · exact mentCB_ok h1
    · exact mentXB_ok h2 e he
theorem mentBB_ok {p : Nat → Bool} {b : Blk} (h : mentBB p b = true) : b.ment fun i => p i = true := by
  cases b with
  | box t cs => exact mentCB_ok h
  | rowD z l => exact mentLB_ok h
  | _ => trivial
theorem mentHB_ok {p : Nat → Bool} : ∀ {H : Hp}, mentHB p H = true → ∀ id b, H.get id = some b → b.ment fun i => p i = true
  | [], _, id, b, e => by simp [Hp.get] at e
  | (j, none) :: H, h, id, b, e => by
    rw [Hp.get_cons] at e
    by_cases hj : id = j
    · subst hj; rw [updH_same] at e; cases e
    · rw [updH_ne _ _ _ hj] at e; exact mentHB_ok (H := H) h id b e
  | (j, some b0) :: H, h, id, b, e => by
    obtain ⟨h1, h2⟩ := ble_and (a := mentBB p b0) (b := mentHB p H) h
    rw [Hp.get_cons] at e
    by_cases hj : id = j
    · subst hj; rw [updH_same] at e; cases e; exact mentBB_ok h1
    · rw [updH_ne _ _ _ hj] at e; exact mentHB_ok (H := H) h2 id b e
theorem mentV_pack {ok : Nat → Prop} {l : List DX} (h : ∀ x ∈ l, mentX ok x) : mentV ok (packD l) := by
  match l with
  | [] => intro x hx; cases hx
  | [x] => exact h x (by simp)
  | x :: y :: l => exact h
def anchors : Nat → List DX → List (Nat × Nat)
  | _, [] => []
  | i, (false, [.ptr id _]) :: l => (i, id) :: anchors (i + 1) l
  | i, _ :: l => anchors (i + 1) l
theorem anchors_ok : ∀ {l : List DX} {i : Nat} {p : Nat × Nat}, p ∈ anchors i l → ∃ k off, p.1 = i + k ∧ l[k]? = some (false, [.ptr p.2 off])
  | [], _, _, h => by cases h
  | x :: l, i, p, h => by
    unfold anchors at h
    split at h
    · rename_i heq; cases heq
    · rename_i heq
      cases heq
      rcases List.mem_cons.1 h with rfl | h
      · exact ⟨0, _, rfl, rfl⟩
      · obtain ⟨k, off, h1, h2⟩ := anchors_ok h
        exact ⟨k + 1, off, by omega, by simpa using h2⟩
    · rename_i heq
      cases heq
      obtain ⟨k, off, h1, h2⟩ := anchors_ok h
      exact ⟨k + 1, off, by omega, by simpa using h2⟩
def isBox : Option Blk → Bool
  | some (.box _ _) => true
  | _ => false
def boxOrNone : Option Blk → Bool
  | some (.box _ _) => true
  | none => true
  | _ => false
def maxTag : List Nat → Nat
  | [] => 0
  | i :: l => match Nat.ble (tag i + 1) (maxTag l) with
    | true => maxTag l
    | false => tag i + 1
theorem maxTag_ok : ∀ {l : List Nat}, ∀ i ∈ l, tag i < maxTag l
  | [], i, h => by cases h
  | j :: l, i, h => by
    unfold maxTag
    split
    · rename_i hb
      have hb := Nat.le_of_ble_eq_true hb
      rcases List.mem_cons.1 h with rfl | h
      · omega
      · exact maxTag_ok i h
    · rename_i hb
      have hb : ¬ tag j + 1 ≤ maxTag l := fun h' => by rw [Nat.ble_eq_true_of_le h'] at hb; cases hb
      rcases List.mem_cons.1 h with rfl | h
      · omega
      · have := maxTag_ok i h; omega
def newNames (n : Nat) (rt : List (Nat × Nat)) : Nat → List Nat → List (Nat × Nat)
  | _, [] => []
  | k, i :: l => match renId rt i with
    | some j => (i, j) :: newNames n rt k l
    | none => (i, 2 * (n * 4294967296 + k) + 1) :: newNames n rt (k + 1) l
def rootsNow (E : EF) : List (Nat × Nat) → Option (List (Nat × Nat))
  | [] => some []
  | (s, id) :: A => match E s with
    | some (.val (false, [.ptr o _])) => match rootsNow E A with
      | some l => some ((o, id) :: l)
      | none => none
    | _ => none
theorem rootsNow_ok {E : EF} : ∀ {A : List (Nat × Nat)} {l : List (Nat × Nat)}, rootsNow E A = some l → ∀ p ∈ A, ∃ o off, E p.1 = some (.val (false, [.ptr o off])) ∧ (o, p.2) ∈ l
  | [], l, _, p, hp => by cases hp
  | (s, id) :: A, l, h, p, hp => by
    unfold rootsNow at h
    split at h
    · rename_i o off he
      split at h
      · rename_i l' hl
        cases h
        rcases List.mem_cons.1 hp with rfl | hp
        · exact ⟨o, off, he, List.mem_cons_self⟩
        · obtain ⟨o', off', h1, h2⟩ := rootsNow_ok hl p hp
          exact ⟨o', off', h1, List.mem_cons_of_mem _ h2⟩
      · cases h
    · cases h
def retH (C : Ctx) (fn : Func) (n : Nat) (A : List (Nat × Nat)) (S : St) : Option (List (Nat × Nat) × List DX × Hp) :=
  match resVarsE C S.hp.get S.env.get fn.results.toList, rootsNow S.env.get A with
  | some ys, some rt =>
    let live := reach S.hp 4000 (idsX ys ++ rt.map Prod.fst) []
    let m := newNames n rt 0 live
    match distinct (m.map Prod.fst) && distinct (m.map Prod.snd) && (rt.all fun p => match renId m p.1 with | some j => Nat.beq j p.2 | none => false) with
    | true => match canonHp m S.hp.get (m.filter fun p => (S.hp.get p.1).isSome), renXs m ys with
      | some Hs', some zs => some (m, zs, Hs')
      | _, _ => none
    | false => none
  | _, _ => none
theorem retH_ok {C : Ctx} {fn : Func} {n : Nat} {A m : List (Nat × Nat)} {S : St} {zs : List DX} {Hs' : Hp} (h : retH C fn n A S = some (m, zs, Hs')) :
    RenOk m S.hp.get Hs'.get ∧ (∀ p ∈ A, ∃ o off, S.env.get p.1 = some (.val (false, [.ptr o off])) ∧ (o, p.2) ∈ m) ∧ resVars C S.hp.get S.env.get fn.results.toList fun ys => ∃ zs', renXs m ys = some zs' ∧ packD zs' = packD zs := by
  unfold retH at h
  split at h
  · rename_i ys rt hys hrt
    simp only at h
    split at h
    · rename_i hb
      obtain ⟨hb, h3⟩ := ble_and hb
      obtain ⟨h1, h2⟩ := ble_and hb
      split at h
      · rename_i Hs0 zs0 hH hz
        simp only [Option.some.injEq, Prod.mk.injEq] at h
        obtain ⟨rfl, rfl, rfl⟩ := h
        refine ⟨⟨distinct_nodup h1, distinct_nodup h2, fun i b' e => ?_⟩, fun p hp => ?_, resVarsE_ok hys ⟨zs0, hz, rfl⟩⟩
        · obtain ⟨o, b, g1, g2, g3⟩ := canonHp_get hH e
          exact ⟨o, b, (List.mem_filter.1 g1).1, g2, g3⟩
        · obtain ⟨o, off, e1, e2⟩ := rootsNow_ok hrt p hp
          have := List.all_eq_true.1 h3 _ e2
          simp only at this
          split at this
          · rename_i j hj
            have hj' := Nat.eq_of_beq_eq_true this
            subst hj'
            exact ⟨o, off, e1, renId_mem hj⟩
          · cases this
      · cases h
    · cases h
  · cases h
def runS (C : Ctx) (L : Nat) (q : Callees) : CL := fun f args => match C.P.funcs[f]? with
  | none => .inl [f, 1000009]
  | some fn => match fn.body with
    | none => .inl [f, 1000010]
    | some c => match fnOk C.P f && codeOk fn.ntmps c && Nat.ble args.length fn.ntmps with
      | false => .inl [f, 1000011]
      | true => match codeE C q L c (entry args) with
        | .norm S => match retE C fn S with
          | some r => .inr r
          | none => .inl [f, 1000012]
        | .ret S => match retE C fn S with
          | some r => .inr r
          | none => .inl [f, 1000012]
        | .bad p => .inl (f :: p)
        | .exit _ _ => .inl [f, 1000013]
theorem runS_ok {C : Ctx} (hC : C.Ok) {L : Nat} {q : Callees} (hq : q.Ok C) (f : FuncId) (args : List SV) (r : Res) (h : runS C L q f args = .inr r) : Sat C.P C.gl f args r := by
  unfold runS at h
  split at h
  · cases h
  · rename_i fn hf
    split at h
    · cases h
    · rename_i c hb
      split at h
      · cases h
      · rename_i hok
        simp only [Bool.and_eq_true] at hok
        have hc := codeE_ok (C := C) hq (fuel := L) (c := c) (entry args)
        refine Sat_of_awp hC hok.1.1 hf hb hok.1.2 (Nat.le_of_ble_eq_true hok.2) ⟨?_⟩
        split at h
        · rename_i e
          rw [e] at hc
          split at h
          · rename_i hr; cases h; exact hc (retE_ok hr rfl)
          · cases h
        · rename_i e
          rw [e] at hc
          split at h
          · rename_i hr; cases h; exact hc (retE_ok hr rfl)
          · cases h
        · cases h
        · cases h
def endH (C : Ctx) (f fid : Nat) (fn : Func) (A : List (Nat × Nat)) (Hs : Hp) (S : St) : Sum (List Nat) Eff :=
  match retH C fn (tag fid) A S with
  | none => .inl [f, 1000015]
  | some (_, zs, Hs') =>
    let p := fun i => natIn i (A.map Prod.snd) || Nat.beq (tag i) (tag fid)
    match ((A.map Prod.snd).all fun i => isBox (Hs.get i) && boxOrNone (Hs'.get i)) && (Hs'.map Prod.fst).all p && mentHB p Hs' && mentXB p zs with
    | true => .inr (packD zs, backHp Hs Hs', Hs.map Prod.fst)
    | false => .inl [f, 1000016]
def runH (C : Ctx) (L : Nat) (q : Callees) : CH := fun fid f xs H =>
  let ks := reach H 4000 (idsX xs) []
  let Hs : Hp := ks.map fun k => (k, H.get k)
  let A := anchors 0 xs
  match C.P.funcs[f]? with
  | none => .inl [f, 1000009]
  | some fn => match fn.body with
    | none => .inl [f, 1000010]
    | some c => match fnOk C.P f && codeOk fn.ntmps c && Nat.ble xs.length fn.ntmps && codeFree (A.map Prod.fst) c && mentHB (fun i => natIn i ks) Hs && mentXB (fun i => natIn i ks) xs with
      | false => .inl [f, 1000011]
      | true => match codeE C q L c ⟨entryD 0 xs, Hs, maxTag ks⟩ with
        | .norm S => endH C f fid fn A Hs S
        | .ret S => endH C f fid fn A Hs S
        | .bad p => .inl (f :: p)
        | .exit _ _ => .inl [f, 1000013]
theorem map_get (H : Hp) : ∀ (ks : List Nat) (id : Nat), id ∈ ks → Hp.get (ks.map fun k => (k, H.get k)) id = H.get id
  | [], _, h => by cases h
  | k :: ks, id, h => by
    rw [List.map_cons, Hp.get_cons]
    by_cases hk : id = k
    · subst hk; rw [updH_same]
    · rw [updH_ne _ _ _ hk]
      exact map_get H ks id ((List.mem_cons.1 h).resolve_left hk)
theorem endH_ok {C : Ctx} {f fid : Nat} {fn : Func} {A : List (Nat × Nat)} {Hs : Hp} {S : St} {e : Eff} (h : endH C f fid fn A Hs S = .inr e) : ∃ m zs Hs', retH C fn (tag fid) A S = some (m, zs, Hs') ∧ e = (packD zs, backHp Hs Hs', Hs.map Prod.fst) ∧
    (∀ id ∈ A.map Prod.snd, (∃ t cs, Hs.get id = some (.box t cs)) ∧ ∀ b', Hs'.get id = some b' → ∃ t cs, b' = .box t cs) ∧ (∀ id ∈ Hs'.map Prod.fst, id ∈ A.map Prod.snd ∨ tag id = tag fid) ∧
    (∀ id b, Hs'.get id = some b → b.ment fun i => i ∈ A.map Prod.snd ∨ tag i = tag fid) ∧ mentV (fun i => i ∈ A.map Prod.snd ∨ tag i = tag fid) (packD zs) := by
  unfold endH at h
  split at h
  · cases h
  · rename_i m zs Hs' hr
    simp only at h
    split at h
    · rename_i hb
      obtain ⟨hb, h4⟩ := ble_and hb
      obtain ⟨hb, h3⟩ := ble_and hb
      obtain ⟨h1, h2⟩ := ble_and hb
      have hp : ∀ i, (natIn i (A.map Prod.snd) || Nat.beq (tag i) (tag fid)) = true → i ∈ A.map Prod.snd ∨ tag i = tag fid := by
        intro i hi
        rw [Bool.or_eq_true] at hi
        rcases hi with hi | hi
        · exact .inl (natIn_iff.1 hi)
        · exact .inr (Nat.eq_of_beq_eq_true hi)
      have mono : ∀ {d : DC}, d.ment (fun i => (natIn i (A.map Prod.snd) || Nat.beq (tag i) (tag fid)) = true) → d.ment fun i => i ∈ A.map Prod.snd ∨ tag i = tag fid := by
        intro d hd
        cases d <;> first | trivial | exact hp _ hd
      refine ⟨m, zs, Hs', hr, (by cases h; rfl), fun id hid => ?_, fun id hid => hp id (List.all_eq_true.1 h2 id hid), fun id b e => ?_, mentV_pack fun x hx d hd => mono (mentXB_ok h4 x hx d hd)⟩
      · have := List.all_eq_true.1 h1 id hid
        obtain ⟨g1, g2⟩ := ble_and this
        refine ⟨?_, fun b' e => ?_⟩
        · unfold isBox at g1
          split at g1
          · rename_i t cs e; exact ⟨t, cs, e⟩
          · cases g1
        · rw [e] at g2
          unfold boxOrNone at g2
          split at g2
          · rename_i t cs e'; exact ⟨t, cs, Option.some.inj e'⟩
          · rename_i e'; cases e'
          · cases g2
      · have := mentHB_ok h3 id b e
        cases b with
        | box t cs => exact fun d hd => mono (this d hd)
        | rowD z l => exact fun e he d hd => mono (this e he d hd)
        | _ => trivial
    · cases h
theorem runH_ok {C : Ctx} (hC : C.Ok) {L : Nat} {q : Callees} (hq : q.Ok C) (fid : Nat) (f : FuncId) (xs : List DX) (H : Hp) (e : Eff) (h : runH C L q fid f xs H = .inr e) : HCall C fid f xs H.get e.1 e.2.1 e.2.2 := by
  unfold runH at h
  generalize hks : reach H 4000 (idsX xs) [] = ks at h
  simp only at h
  split at h
  · cases h
  rename_i fn hf
  split at h
  · cases h
  rename_i c hb
  split at h
  · cases h
  rename_i hok
  obtain ⟨hok, g6⟩ := ble_and hok
  obtain ⟨hok, g5⟩ := ble_and hok
  obtain ⟨hok, g4⟩ := ble_and hok
  obtain ⟨hok, g3⟩ := ble_and hok
  obtain ⟨g1, g2⟩ := ble_and hok
  have hkeys : (ks.map fun k => (k, H.get k)).map Prod.fst = ks := by simp [Function.comp_def]
  have fin : ∀ S, (∀ {kn : St → Prop} {kx : Nat → St → Prop} {kr : St → Prop}, kn S → kr S → awp C c ⟨entryD 0 xs, ks.map fun k => (k, H.get k), maxTag ks⟩ kn kx kr) → endH C f fid fn (anchors 0 xs) (ks.map fun k => (k, H.get k)) S = .inr e → HCall C fid f xs H.get e.1 e.2.1 e.2.2 := by
    intro S hawp hend
    obtain ⟨m, zs, Hs', r1, rfl, r2, r3, r4, r5⟩ := endH_ok hend
    have hrun : GRun C f (maxTag ks) xs (ks.map fun k => (k, H.get k)) ((anchors 0 xs).map Prod.snd) (packD zs) Hs' := by
      refine GRun_of_ret (ret := fun S' => S' = S) hC g1 hf hb g2 (Nat.le_of_ble_eq_true g3) (anchors 0 xs) (fun p hp => ?_) g4 (fun S' hS' => ?_) ⟨hawp rfl rfl⟩
      · obtain ⟨k, off, h1, h2⟩ := anchors_ok hp
        exact ⟨off, by rw [h1, Nat.zero_add]; exact h2⟩
      · subst hS'
        obtain ⟨q1, q2, q3⟩ := retH_ok r1
        exact ⟨m, q1, q2, q3⟩
    refine HCall_of_GRun hrun ?_ ?_ ?_ ?_ r2 r3 r4 r5
    · rw [hkeys]; exact maxTag_ok
    · rw [hkeys]; exact fun id hid => map_get H ks id hid
    · intro id b eb
      have := mentHB_ok g5 id b eb
      rw [hkeys]
      cases b with
      | box t cs => exact fun d hd => by have := this d hd; cases d <;> first | trivial | exact natIn_iff.1 this
      | rowD z l => exact fun e he d hd => by have := this e he d hd; cases d <;> first | trivial | exact natIn_iff.1 this
      | _ => trivial
    · intro x hx
      have := mentXB_ok g6 x hx
      rw [hkeys]
      exact fun d hd => by have := this d hd; cases d <;> first | trivial | exact natIn_iff.1 this
  have hc := codeE_ok (C := C) hq (fuel := L) (c := c) ⟨entryD 0 xs, ks.map fun k => (k, H.get k), maxTag ks⟩
  split at h
  · rename_i S e1
    rw [e1] at hc
    exact fin S (fun k1 _ => hc k1) h
  · rename_i S e1
    rw [e1] at hc
    exact fin S (fun _ k2 => hc k2) h
  · cases h
  · cases h
def chunks (z : Nat) : Nat → List SC → List (List SC)
  | 0, _ => []
  | n + 1, cs => cs.take z :: chunks z n (cs.drop z)
theorem chunks_ok {z : Nat} : ∀ {n : Nat} {cs : List SC}, cs.length = n * z → (chunks z n cs).length = n ∧ (∀ e ∈ chunks z n cs, e.length = z) ∧ ∀ (i : Nat) (e : List SC) (j : Nat) (x : SC), (chunks z n cs)[i]? = some e → e[j]? = some x → cs[i * z + j]? = some x
  | 0, cs, _ => by simp [chunks]
  | n + 1, cs, h => by
    rw [Nat.add_mul, Nat.one_mul] at h
    obtain ⟨g1, g2, g3⟩ := chunks_ok (z := z) (n := n) (cs := cs.drop z) (by simp; omega)
    refine ⟨by simp [chunks, g1], fun e he => ?_, fun i e j x hi hj => ?_⟩
    · rcases List.mem_cons.1 he with rfl | he
      · simp; omega
      · exact g2 e he
    · cases i with
      | zero =>
        simp only [chunks, List.getElem?_cons_zero, Option.some.injEq] at hi
        subst hi
        rw [List.getElem?_take] at hj
        split at hj
        · rw [Nat.zero_mul, Nat.zero_add]; exact hj
        · cases hj
      | succ i =>
        have := g3 i e j x (by simpa [chunks] using hi) hj
        rw [List.getElem?_drop] at this
        rw [Nat.add_mul, Nat.one_mul]
        rw [show i * z + z + j = z + (i * z + j) by omega]; exact this
def rawArgs (C : Ctx) : List SV → Option (List SV)
  | (false, [.raw (.slice (some ⟨g, 0, none⟩) n cap)]) :: rest => match globGet C.gl g with
    | some cs => match Nat.blt 0 n && Nat.ble n cap && Nat.blt 0 (cs.length / n) && Nat.beq cs.length (n * (cs.length / n)) with
      | true => some ((false, [.view (chunks (cs.length / n) n cs)]) :: rest)
      | false => none
    | none => none
  | _ => none
theorem rawArgs_ok {C : Ctx} {f : FuncId} {args args' : List SV} {r : Res} (h : rawArgs C args = some args') (hs : Sat C.P C.gl f args' r) (hm : memFree r) : Sat C.P C.gl f args r := by
  unfold rawArgs at h
  split at h
  rotate_left
  · cases h
  rename_i g n cap rest
  split at h
  rotate_left
  · cases h
  rename_i cs hg
  split at h
  rotate_left
  · cases h
  rename_i hb
  obtain ⟨hb, h4⟩ := ble_and hb
  obtain ⟨hb, h3⟩ := ble_and hb
  obtain ⟨h1, h2⟩ := ble_and hb
  simp only [Option.some.injEq] at h
  subst h
  obtain ⟨g1, g2, g3⟩ := chunks_ok (Nat.eq_of_beq_eq_true h4)
  have h1 : 0 < n := by simpa [Nat.blt_eq] using h1
  have h3 : 0 < cs.length / n := by simpa [Nat.blt_eq] using h3
  have h2 := Nat.le_of_ble_eq_true h2
  have := raw_sat (cap := cap) hs hm (globGet_mem hg) h3 (by rw [g1]; exact h1) (by rw [g1]; exact h2) g2 g3
  rwa [g1] at this
def fnP (C : Ctx) (bs : CL) (L : Nat) : Nat → Callees
  | 0 => ⟨fun f _ => .inl [f, 1000008], fun _ f _ _ => .inl [f, 1000008]⟩
  | n + 1 => ⟨fun f args => match bs f args with
      | .inr r => .inr r
      | .inl _ => match rawArgs C args with
        | some args' => match runS C L (fnP C bs L n) f args' with
          | .inr r => match memFreeE r with
            | true => .inr r
            | false => .inl [f, 1000023]
          | .inl p => .inl p
        | none => runS C L (fnP C bs L n) f args, runH C L (fnP C bs L n)⟩
theorem fnP_ok {C : Ctx} (hC : C.Ok) {bs : CL} (hbs : ∀ f a r, bs f a = .inr r → Sat C.P C.gl f a r) {L : Nat} : ∀ n, (fnP C bs L n).Ok C
  | 0 => ⟨fun f a r h => (by cases h), fun fid f xs H e h => (by cases h)⟩
  | n + 1 => ⟨fun f a r h => by
      simp only [fnP] at h
      split at h
      · rename_i hr; cases h; exact hbs _ _ _ hr
      · split at h
        · rename_i args' ha
          split at h
          · rename_i hr
            split at h
            · rename_i hm
              cases h
              exact rawArgs_ok ha (runS_ok hC (fnP_ok hC hbs n) f _ _ hr) (memFreeE_ok hm)
            · cases h
          · cases h
        · exact runS_ok hC (fnP_ok hC hbs n) f a r h, fun fid f xs H e h => runH_ok hC (fnP_ok hC hbs n) fid f xs H e h⟩
def fnQ (C : Ctx) (bs : CL) (bh : CH) (L : Nat) : Nat → Callees
  | 0 => ⟨fun f _ => .inl [f, 1000008], fun _ f _ _ => .inl [f, 1000008]⟩
  | n + 1 => ⟨fun f args => match bs f args with
      | .inr r => .inr r
      | .inl _ => match rawArgs C args with
        | some args' => match runS C L (fnQ C bs bh L n) f args' with
          | .inr r => match memFreeE r with
            | true => .inr r
            | false => .inl [f, 1000023]
          | .inl p => .inl p
        | none => runS C L (fnQ C bs bh L n) f args, fun fid f xs H => match bh fid f xs H with
      | .inr e => .inr e
      | .inl _ => runH C L (fnQ C bs bh L n) fid f xs H⟩
theorem fnQ_ok {C : Ctx} (hC : C.Ok) {bs : CL} {bh : CH} (hbs : ∀ f a r, bs f a = .inr r → Sat C.P C.gl f a r) (hbh : ∀ fid f xs (H : Hp) e, bh fid f xs H = .inr e → HCall C fid f xs H.get e.1 e.2.1 e.2.2) {L : Nat} : ∀ n, (fnQ C bs bh L n).Ok C
  | 0 => ⟨fun f a r h => (by cases h), fun fid f xs H e h => (by cases h)⟩
  | n + 1 => ⟨fun f a r h => by
      simp only [fnQ] at h
      split at h
      · rename_i hr; cases h; exact hbs _ _ _ hr
      · split at h
        · rename_i args' ha
          split at h
          · rename_i hr
            split at h
            · rename_i hm
              cases h
              exact rawArgs_ok ha (runS_ok hC (fnQ_ok hC hbs hbh n) f _ _ hr) (memFreeE_ok hm)
            · cases h
          · cases h
        · exact runS_ok hC (fnQ_ok hC hbs hbh n) f a r h, fun fid f xs H e h => by
      simp only [fnQ] at h
      split at h
      · rename_i hr; cases h; exact hbh _ _ _ _ _ hr
      · exact runH_ok hC (fnQ_ok hC hbs hbh n) fid f xs H e h⟩
def noBs : CL := fun f _ => .inl [f]
end Go.Fw
