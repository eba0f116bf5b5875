/- Framework: a function called with known values, by running it on abstract values. Program independent. -/
import Derived.Test.YtflcnhmckeiacaaGreatDoorFc
namespace Go.Fw

/-- What a callee hands back, or where it got stuck. -/
abbrev CL := FuncId → List SV → Sum (List Nat) Res

def intBinE (op : BinOp) (k : IntKind) (a b : Int) : Option Value :=
  match op with
  | .add => some (.int k (k.wrap (a + b)))
  | .sub => some (.int k (k.wrap (a - b)))
  | .mul => some (.int k (k.wrap (a * b)))
  | .quo => if b ≠ 0 then some (.int k (k.wrap (a.tdiv b))) else none
  | .rem => if b ≠ 0 then some (.int k (a.tmod b)) else none
  | .and => some (.int k (k.wrap (BitVec.ofInt k.bits a &&& BitVec.ofInt k.bits b).toNat))
  | .or => some (.int k (k.wrap (BitVec.ofInt k.bits a ||| BitVec.ofInt k.bits b).toNat))
  | .xor => some (.int k (k.wrap (BitVec.ofInt k.bits a ^^^ BitVec.ofInt k.bits b).toNat))
  | .andNot => some (.int k (k.wrap (BitVec.ofInt k.bits a &&& ~~~BitVec.ofInt k.bits b).toNat))
  | .eql => some (.bool (a == b))
  | .neq => some (.bool (a != b))
  | .lss => some (.bool (decide (a < b)))
  | .leq => some (.bool (decide (a ≤ b)))
  | .gtr => some (.bool (decide (a > b)))
  | .geq => some (.bool (decide (a ≥ b)))
  | _ => none

theorem intBinE_ok {op : BinOp} {k : IntKind} {a b : Int} {v : Value} (h : intBinE op k a b = some v) {K : Value → Prop} (hK : K v) : intBin op k a b K := by
  unfold intBinE at h; unfold intBin
  cases op <;> simp only [Option.some.injEq, reduceCtorEq] at h ⊢ <;> first | (cases h; done) | (subst h; exact hK) | (split at h <;> first | (cases h; done) | (cases h; exact ⟨by assumption, hK⟩))

def strBinE (op : BinOp) (a b : ByteArray) : Option Value :=
  match op with
  | .add => if a.size + b.size ≤ 2 ^ 40 then some (.string (a ++ b)) else none
  | .eql => some (.bool (a.toList == b.toList))
  | .neq => some (.bool !(a.toList == b.toList))
  | .lss => some (.bool (Op.bytesLess a.toList b.toList))
  | .leq => some (.bool (Op.bytesLess a.toList b.toList || a.toList == b.toList))
  | .gtr => some (.bool !(Op.bytesLess a.toList b.toList || a.toList == b.toList))
  | .geq => some (.bool !(Op.bytesLess a.toList b.toList))
  | _ => none

theorem strBinE_ok {op : BinOp} {a b : ByteArray} {v : Value} (h : strBinE op a b = some v) {K : Value → Prop} (hK : K v) : strBin op a b K := by
  unfold strBinE at h; unfold strBin
  cases op <;> simp only [Option.some.injEq, reduceCtorEq] at h ⊢ <;> first | (cases h; done) | (subst h; exact hK) | (split at h <;> first | (cases h; done) | (cases h; exact ⟨by assumption, hK⟩))

def litBinE (op : BinOp) : Value → Value → Option Value
  | .int k a, .int k' b => match op with
    | .shl => if 0 ≤ b then some (.int k (k.wrap (a * 2 ^ (min b.toNat k.bits)))) else none
    | .shr => if 0 ≤ b then some (.int k (a.fdiv (2 ^ (min b.toNat k.bits)))) else none
    | op => match decide (k = k') with
      | true => intBinE op k a b
      | false => none
  | .string a, .string b => strBinE op a b
  | _, _ => none

theorem litBinE_ok {op : BinOp} {x y : Value} {v : Value} (h : litBinE op x y = some v) {K : Value → Prop} (hK : K v) : litBin op x y K := by
  unfold litBinE at h; unfold litBin
  split at h
  · split at h
    · split at h
      · cases h; exact ⟨by assumption, hK⟩
      · cases h
    · split at h
      · cases h; exact ⟨by assumption, hK⟩
      · cases h
    · split at h
      · rename_i n1 n2 _ e
        cases op <;> first | exact (n1 rfl).elim | exact (n2 rfl).elim | (simp only [e]; exact intBinE_ok h hK)
      · cases h
  · exact strBinE_ok h hK
  · cases h

def binE (C : Ctx) (op : BinOp) (T : TypeId) (x y : DX) : Option DV :=
  match x, y with
  | (false, [.st (.lit (.bool a))]), (false, [.st (.lit (.bool b))]) => match C.ti T with
    | some i => match i.cls, op with
      | .bool, .eql => some (lit (.bool (a == b)))
      | .bool, .neq => some (lit (.bool !(a == b)))
      | _, _ => none
    | none => none
  | (false, [.st (.lit a)]), (false, [.st (.lit b)]) => match litBinE op a b with
    | some v => some (lit v)
    | none => none
  | (true, xs), (true, ys) => match C.ti T with
    | some i => match clsAg i.cls with
      | true => match i.eqs, op with
        | some l, .eql => match eqCells l xs ys with
          | some b => some (lit (.bool b))
          | none => none
        | some l, .neq => match eqCells l xs ys with
          | some b => some (lit (.bool !b))
          | none => none
        | _, _ => none
      | false => none
    | none => none
  | _, _ => none

theorem binE_ok {C : Ctx} {nc : Bool} {op : BinOp} {T : TypeId} {x y : DX} {v : DV} (h : binE C op T x y = some v) {K : DV → Prop} (hK : K v) : binA C nc op T x y K := by
  unfold binE at h; unfold binA
  split at h
  · split at h
    · split at h <;> first | (cases h; done) | (cases h; simp_all)
    · cases h
  · split at h
    · rename_i a b _ _ _ v' hv
      cases h
      cases a <;> cases b <;> first | (cases hv; done) | (refine litBinE_ok hv ?_; exact hK)
    · cases h
  · split at h
    · split at h
      · split at h
        · split at h <;> first | (cases h; done) | (cases h; simp_all)
        · split at h <;> first | (cases h; done) | (cases h; simp_all)
        · cases h
      · cases h
    · cases h
  · cases h

def unE (op : UnOp) (x : DX) : Option DV :=
  match op, x with
  | .neg, (false, [.st (.lit (.int k n))]) => some (lit (.int k (k.wrap (0 - n))))
  | .xor, (false, [.st (.lit (.int k n))]) => some (lit (.int k (k.wrap (BitVec.ofInt k.bits (if k.signed then -1 else k.max) ^^^ BitVec.ofInt k.bits n).toNat)))
  | .not, (false, [.st (.lit (.bool b))]) => some (lit (.bool !b))
  | _, _ => none

theorem unE_ok {op : UnOp} {x : DX} {v : DV} (h : unE op x = some v) {K : DV → Prop} (hK : K v) : unA op x K := by
  unfold unE at h; unfold unA
  split at h <;> cases h <;> exact hK

def okSz (i : TI) : Bool := clsAg i.cls || Nat.beq i.size 1

def loadE (C : Ctx) (T : TypeId) (x : DX) (H : HF) : Option Eff :=
  match C.ti T with
  | none => none
  | some i =>
    match x with
    | (false, [.ptr id off]) => match H id with
      | some (.box _ cs) => match Nat.ble (off + i.size) cs.length && (clsAg i.cls || Nat.beq i.size 1) with
        | true => some (.val (clsAg i.cls, (cs.drop off).take i.size), [], [id])
        | false => none
      | some (.fbox cs) => match Nat.ble (off + i.size) cs.length && (clsAg i.cls || Nat.beq i.size 1) with
        | true => some (.val (clsAg i.cls, ((cs.drop off).take i.size).map .st), [], [id])
        | false => none
      | _ => none
    | (false, [.st (.ref cs)]) => match Nat.ble i.size cs.length && (clsAg i.cls || Nat.beq i.size 1) with
      | true => some (.val (clsAg i.cls, (cs.take i.size).map .st), [], [])
      | false => none
    | (false, [.rptr id z n off]) => match H id with
      | some (.row _ z' c) => match Nat.beq z z' && Nat.ble (off + i.size) z && (clsAg i.cls || Nat.beq i.size 1) with
        | true => match c.elem n with
          | some e => some (.val (clsAg i.cls, ((e.drop off).take i.size).map .st), [], [id])
          | none => none
        | false => none
      | _ => none
    | _ => none

theorem loadE_ok {C : Ctx} {T : TypeId} {x : DX} {H : HF} {e : Eff} (h : loadE C T x H = some e) {K : OpK} (hK : K e.1 e.2.1 e.2.2) : loadA C T x H K := by
  unfold loadE at h; unfold loadA
  repeat' split at h
  all_goals first | (cases h; done) | (cases h; simp only [*, Option.some.injEq, exists_eq_left']; done) | (cases h; simp only [*, and_self, true_and, and_true, Option.some.injEq, exists_eq_left', exists_eq_left]; simp only [*, and_self, true_and, and_true, Option.some.injEq, exists_eq_left', exists_eq_left]; done)

def storeE (C : Ctx) (T : TypeId) (x v : DX) (H : HF) : Option Eff :=
  match C.ti T with
  | none => none
  | some i => match Nat.beq v.2.length i.size with
    | false => none
    | true => match x with
      | (false, [.ptr id off]) => match H id with
        | some (.box t cs) => match Nat.ble (off + i.size) cs.length with
          | true => some (.tup [], [(id, some (.box t (splice cs off v.2)))], [id])
          | false => none
        | _ => none
      | (false, [.rptr id z n off]) => match H id with
        | some (.row true z' c) => match Nat.beq z z' && Nat.ble (off + i.size) z with
          | true => match stat1L H i.kinds v.2 with
            | some (l, [], r) => match flats l with
              | true => match c.elem n with
                | some e => match c.setElem n (splice e off l) with
                  | some c' => some (.tup [], [(id, some (.row true z' c'))], (id :: r))
                  | none => none
                | none => none
              | false => none
            | _ => none
          | false => none
        | _ => none
      | _ => none

theorem storeE_ok {C : Ctx} {T : TypeId} {x v : DX} {H : HF} {e : Eff} (h : storeE C T x v H = some e) {K : OpK} (hK : K e.1 e.2.1 e.2.2) : storeA C T x v H K := by
  unfold storeE at h; unfold storeA
  repeat' split at h
  all_goals first | (cases h; done) | (cases h; simp only [*, Option.some.injEq, exists_eq_left']; done) | (cases h; simp only [*, and_self, true_and, and_true, Option.some.injEq, exists_eq_left', exists_eq_left]; simp only [*, and_self, true_and, and_true, Option.some.injEq, exists_eq_left', exists_eq_left]; done)

def fieldAddrE (C : Ctx) (T : TypeId) (x : DX) (f : Nat) : Option Eff :=
  match C.ti T with
  | none => none
  | some i => match i.cls with
    | .struct fs => match fs[f]? with
      | some (o, ft) => match C.ti ft with
        | some fi => match Nat.ble 1 fi.size with
          | true => match x with
            | (false, [.ptr id off]) => some (one (.ptr id (off + o)), [], [])
            | (false, [.st (.ref cs)]) => some (one (.st (.ref (cs.drop o))), [], [])
            | (false, [.rptr id z n off]) => some (one (.rptr id z n (off + o)), [], [])
            | _ => none
          | false => none
        | none => none
      | none => none
    | _ => none

theorem fieldAddrE_ok {C : Ctx} {T : TypeId} {x : DX} {f : Nat} {e : Eff} (h : fieldAddrE C T x f = some e) {K : OpK} (hK : K e.1 e.2.1 e.2.2) : fieldAddrA C T x f K := by
  unfold fieldAddrE at h; unfold fieldAddrA
  repeat' split at h
  all_goals first | (cases h; done) | (cases h; simp only [*]; done) | (cases h; simp only [*, and_self, true_and, and_true, Option.some.injEq, exists_eq_left', exists_eq_left]; simp only [*, and_self, true_and, and_true, Option.some.injEq, exists_eq_left', exists_eq_left]; done)

def indexAddrE (C : Ctx) (T : TypeId) (x ix : DX) (H : HF) : Option Eff :=
  match C.ti T with
  | none => none
  | some i => match i.cls, ix with
    | .slice e, (false, [.st (.lit (.int _ n))]) => match C.ti e with
      | none => none
      | some ie => match x with
        | (false, [.own id]) => match H id with
          | some (.row _ z c) => match Nat.beq z ie.size with
            | true => if 0 ≤ n ∧ n < c.len then some (one (.rptr id z n.toNat 0), [], [id]) else none
            | false => none
          | _ => none
        | (false, [.st c]) => match c.isView with
          | true => if 0 ≤ n then match c.elem n.toNat with
            | some el => if el.length = ie.size then some (one (.st (.ref el)), [], []) else none
            | none => none
            else none
          | false => none
        | _ => none
    | .array len e, (false, [.st (.lit (.int _ n))]) => match C.ti e with
      | none => none
      | some ie => match x with
        | (false, [.ptr id off]) => if 0 ≤ n ∧ n < len then some (one (.ptr id (off + n.toNat * ie.size)), [], []) else none
        | (false, [.st (.ref cs)]) => if 0 ≤ n ∧ n < len then some (one (.st (.ref (cs.drop (n.toNat * ie.size)))), [], []) else none
        | _ => none
    | _, _ => none

theorem indexAddrE_ok {C : Ctx} {T : TypeId} {x ix : DX} {H : HF} {e : Eff} (h : indexAddrE C T x ix H = some e) {K : OpK} (hK : K e.1 e.2.1 e.2.2) : indexAddrA C T x ix H K := by
  unfold indexAddrE at h; unfold indexAddrA
  repeat' split at h
  all_goals first | (cases h; done) | (cases h; simp only [*, and_self, Option.some.injEq, exists_eq_left']; done) | (cases h; simp only [*, and_self, true_and, and_true, Option.some.injEq, exists_eq_left', exists_eq_left]; simp only [*, and_self, true_and, and_true, Option.some.injEq, exists_eq_left', exists_eq_left]; done)

def partE (i : TI) (cs : List DC) (off : Nat) : Option Eff :=
  match Nat.ble (off + i.size) cs.length && (isAg i || Nat.beq i.size 1) with
  | true => some (.val (isAg i, (cs.drop off).take i.size), [], [])
  | false => none

theorem partE_ok {i : TI} {cs : List DC} {off : Nat} {e : Eff} (h : partE i cs off = some e) {K : OpK} (hK : K e.1 e.2.1 e.2.2) : partA i cs off K := by
  unfold partE at h; unfold partA
  repeat' split at h
  all_goals first | (cases h; done) | (cases h; simp only [*]; done) | (cases h; simp only [*, and_self, true_and, and_true, Option.some.injEq, exists_eq_left', exists_eq_left]; simp only [*, and_self, true_and, and_true, Option.some.injEq, exists_eq_left', exists_eq_left]; done)

def indexE (C : Ctx) (T : TypeId) (x ix : DX) : Option Eff :=
  match C.ti T with
  | none => none
  | some i => match i.cls, ix with
    | .array len e, (false, [.st (.lit (.int _ n))]) => match C.ti e with
      | none => none
      | some ie => match x with
        | (true, cs) => if 0 ≤ n ∧ n < len then partE ie cs (n.toNat * ie.size) else none
        | _ => none
    | .str, (false, [.st (.lit (.int _ n))]) => match x with
      | (false, [.st (.lit (.string s))]) => if 0 ≤ n then match s[n.toNat]? with
        | some b => some (lit (.int .u8 (b.toNat : Nat)), [], [])
        | none => none
        else none
      | _ => none
    | _, _ => none

theorem indexE_ok {C : Ctx} {T : TypeId} {x ix : DX} {e : Eff} (h : indexE C T x ix = some e) {K : OpK} (hK : K e.1 e.2.1 e.2.2) : indexA C T x ix K := by
  unfold indexE at h; unfold indexA
  repeat' split at h
  all_goals first | (cases h; done) | (simp only [*, and_self, true_and, Option.some.injEq, exists_eq_left']; exact partE_ok h hK) | (cases h; simp only [*, and_self, Option.some.injEq, exists_eq_left']; done)

def fieldE (C : Ctx) (T : TypeId) (x : DX) (f : Nat) : Option Eff :=
  match C.ti T with
  | none => none
  | some i => match i.cls with
    | .struct fs => match fs[f]? with
      | some (o, ft) => match C.ti ft with
        | some fi => match x with
          | (true, cs) => partE fi cs o
          | _ => none
        | none => none
      | none => none
    | _ => none

theorem fieldE_ok {C : Ctx} {T : TypeId} {x : DX} {f : Nat} {e : Eff} (h : fieldE C T x f = some e) {K : OpK} (hK : K e.1 e.2.1 e.2.2) : fieldA C T x f K := by
  unfold fieldE at h; unfold fieldA
  repeat' split at h
  all_goals first | (cases h; done) | (simp only [*]; exact partE_ok h hK) | (cases h; simp only [*, and_self, true_and, and_true, Option.some.injEq, exists_eq_left', exists_eq_left]; done)

def bndE (d : Option (Option DV)) (dflt : Nat) : Option Nat :=
  match d with
  | none => some dflt
  | some (some (.val (false, [.st (.lit (.int _ n))]))) => if 0 ≤ n then some n.toNat else none
  | _ => none

theorem bndE_ok {d : Option (Option DV)} {dflt n : Nat} (h : bndE d dflt = some n) {K : Nat → Prop} (hK : K n) : bnd d dflt K := by
  unfold bndE at h; unfold bnd
  repeat' split at h
  all_goals first | (cases h; done) | (cases h; simp only [*, and_self]; done) | (cases h; simp only [*, and_self, true_and, and_true, Option.some.injEq, exists_eq_left', exists_eq_left]; simp only [*, and_self, true_and, and_true, Option.some.injEq, exists_eq_left', exists_eq_left]; done)

/-- Have all elements z cells? -/
def uniE (z : Nat) : SC → Bool
  | .ints _ => Nat.beq z 1
  | .view es => es.all fun e => Nat.beq e.length z
  | _ => false

theorem uniE_ok {c : SC} {z : Nat} (h : uniE z c = true) : c.uni z := by
  cases c <;> simp only [uniE, Bool.false_eq_true] at h
  · exact Nat.eq_of_beq_eq_true h
  · intro e he; exact Nat.eq_of_beq_eq_true (List.all_eq_true.1 h e he)

def sliceE (C : Ctx) (T : TypeId) (x : DX) (lo hi : Option (Option DV)) (H : HF) : Option Eff :=
  match C.ti T with
  | none => none
  | some i => match i.cls with
    | .slice e => match C.ti e with
      | none => none
      | some ie => match stat1L H i.kinds x.2 with
        | some ([c], u, r) => match x.1, c.isView with
          | false, true => match bndE lo 0 with
            | some l => match bndE hi c.len with
              | some h => match decide (l ≤ h ∧ h ≤ c.len) && uniE ie.size c with
                | true => some (one (.st (c.sub l h)), u, r)
                | false => none
              | none => none
            | none => none
          | _, _ => none
        | _ => none
    | .str => match x with
      | (false, [.st (.lit (.string s))]) => match bndE lo 0 with
        | some l => match bndE hi s.size with
          | some h => if l ≤ h ∧ h ≤ s.size then some (lit (.string (s.extract l h)), [], []) else none
          | none => none
        | none => none
      | _ => none
    | .array n e => match C.ti e with
      | none => none
      | some ie => match x, lo, hi with
        | (false, [.ptr id off]), none, none => match H id with
          | some (.box t cs) => match stat1L H (C.kinds t) cs with
            | some (l, u, r) => match C.isInts e, Nat.beq ie.size 1 && Nat.ble (off + n) l.length && Nat.ble 1 n with
              | true, true => match toInts (((l.drop off).take n).map fun c => [c]) with
                | some ns => some (one (.st (.ints ns)), ((id, some (.fbox l)) :: u), (id :: r))
                | none => none
              | _, _ => none
            | none => none
          | some (.fbox l) => match C.isInts e, Nat.beq ie.size 1 && Nat.ble (off + n) l.length && Nat.ble 1 n with
              | true, true => match toInts (((l.drop off).take n).map fun c => [c]) with
                | some ns => some (one (.st (.ints ns)), [], [id])
                | none => none
              | _, _ => none
          | _ => none
        | _, _, _ => none
    | _ => none

theorem sliceE_ok {C : Ctx} {T : TypeId} {x : DX} {lo hi : Option (Option DV)} {H : HF} {e : Eff} (h : sliceE C T x lo hi H = some e) {K : OpK} (hK : K e.1 e.2.1 e.2.2) : sliceA C T x lo hi H K := by
  unfold sliceE at h; unfold sliceA
  split at h
  · cases h
  split at h
  · split at h
    · cases h
    split at h
    · split at h
      · split at h
        · split at h
          · split at h
            · rename_i hl _ _ hh _ hd
              simp only [Bool.and_eq_true, decide_eq_true_eq] at hd
              cases h
              simp only [*]
              refine bndE_ok hl ?_; refine bndE_ok hh ?_; exact ⟨hd.1, uniE_ok hd.2, hK⟩
            · cases h
          · cases h
        · cases h
      · cases h
    · cases h
  · split at h
    · split at h
      · split at h
        · split at h
          · rename_i hl _ _ hh hd
            cases h
            simp only [*]
            refine bndE_ok hl ?_; refine bndE_ok hh ?_; exact ⟨hd, hK⟩
          · cases h
        · cases h
      · cases h
    · cases h
  · repeat' split at h
    all_goals first | (cases h; done) | (cases h; simp only [*]; done) | (cases h; simp only [*, and_self, true_and, and_true, Option.some.injEq, exists_eq_left', exists_eq_left]; simp only [*, and_self, true_and, and_true, Option.some.injEq, exists_eq_left', exists_eq_left]; done)
  · cases h

def makeFuncE (C : Ctx) (f : FuncId) (first caps : List (Option DV)) (H : HF) : Option Eff :=
  match makeFuncA.firsts H first with
  | some (a, u, r) => match makeFuncA.capts C H caps with
    | some (b, u', r') => some (one (.st (.fn f a b)), (u ++ u'), (r ++ r'))
    | none => none
  | none => none

theorem makeFuncE_ok {C : Ctx} {f : FuncId} {first caps : List (Option DV)} {H : HF} {e : Eff} (h : makeFuncE C f first caps H = some e) {K : OpK} (hK : K e.1 e.2.1 e.2.2) : makeFuncA C f first caps H K := by
  unfold makeFuncE at h; unfold makeFuncA
  repeat' split at h
  all_goals first | (cases h; done) | (cases h; simp only [*]; done) | (cases h; simp only [*, and_self, true_and, and_true, Option.some.injEq, exists_eq_left', exists_eq_left]; simp only [*, and_self, true_and, and_true, Option.some.injEq, exists_eq_left', exists_eq_left]; done)

def makeSliceE (C : Ctx) (fid : Nat) (T : TypeId) (l c : DX) : Option Eff :=
  match C.ti T with
  | none => none
  | some i => match i.cls, l, c with
    | .slice e, (false, [.st (.lit (.int _ n))]), (false, [.st (.lit (.int _ m))]) => match C.ti e with
      | none => none
      | some ie => match Nat.ble 1 ie.size && Nat.ble ie.bytes 4096 && Nat.beq ie.zero.length ie.size with
        | true => if 0 ≤ n ∧ n ≤ m ∧ m ≤ LIM then match C.isInts e with
          | true => match ie.zero with
            | [.lit (.int .i64 0)] => some (one (.own fid), [(fid, some (.row true ie.size (.ints (List.replicate n.toNat 0))))], [])
            | _ => none
          | false => match zerosS ie.kinds ie.zero with
            | some z => some (one (.own fid), [(fid, some (.row true ie.size (.view (List.replicate n.toNat z))))], [])
            | none => none
          else none
        | false => none
    | _, _, _ => none

theorem makeSliceE_ok {C : Ctx} {fid : Nat} {T : TypeId} {l c : DX} {e : Eff} (h : makeSliceE C fid T l c = some e) {K : OpK} (hK : K e.1 e.2.1 e.2.2) : makeSliceA C fid T l c K := by
  unfold makeSliceE at h; unfold makeSliceA
  split at h
  · cases h
  split at h
  · split at h
    · cases h
    split at h
    · rename_i hb
      split at h
      · rename_i hn
        simp only [*, true_and]
        repeat' split at h
        all_goals first | (cases h; done) | (cases h; simp only [*]; done)
      · cases h
    · cases h
  · cases h

def appendE (C : Ctx) (fid : Nat) (T : TypeId) (x y : DX) (H : HF) : Option Eff :=
  match C.ti T with
  | none => none
  | some i => match i.cls, y with
    | .slice e, (false, [yc]) => match C.ti e with
      | none => none
      | some ie => match Nat.ble 1 ie.size && Nat.ble ie.bytes 4096 && Nat.beq ie.zero.length ie.size with
        | false => none
        | true => match stat1 H (C.isInts e) yc with
          | none => none
          | some (cy, _, ry) => match x with
            | (false, [.nil]) => match SC.cat (nilOf (C.isInts e)) cy with
              | some c' => match uniE ie.size c' && Nat.ble c'.len LIM with
                | true => some (one (.own fid), [(fid, some (.row true ie.size c'))], ry)
                | false => none
              | none => none
            | (false, [.own id]) => match H id with
              | some (.row m z c) => match Nat.beq z ie.size, SC.cat c cy with
                | true, some c' => match uniE z cy && Nat.ble c'.len LIM with
                  | true => some (one (.own fid), [(fid, some (.row m z c')), (id, none)], (id :: ry))
                  | false => none
                | _, _ => none
              | _ => none
            | _ => none
    | _, _ => none

theorem appendE_ok {C : Ctx} {fid : Nat} {T : TypeId} {x y : DX} {H : HF} {e : Eff} (h : appendE C fid T x y H = some e) {K : OpK} (hK : K e.1 e.2.1 e.2.2) : appendA C fid T x y H K := by
  unfold appendE at h; unfold appendA
  split at h
  · cases h
  split at h
  · split at h
    · cases h
    split at h
    · cases h
    split at h
    · cases h
    split at h
    · split at h
      · split at h
        · rename_i hd
          simp only [Bool.and_eq_true] at hd
          cases h
          simp only [*]
          exact ⟨uniE_ok hd.1, Nat.le_of_ble_eq_true hd.2, trivial⟩
        · cases h
      · cases h
    · split at h
      · split at h
        · split at h
          · rename_i hd
            simp only [Bool.and_eq_true] at hd
            cases h
            simp only [*]
            exact ⟨uniE_ok hd.1, Nat.le_of_ble_eq_true hd.2, trivial⟩
          · cases h
        · cases h
      · cases h
    · cases h
  · cases h

def minmaxE (isMax : Bool) (k : IntKind) (a : Int) : List DX → Option Value
  | [] => some (.int k a)
  | (false, [.st (.lit (.int k' b))]) :: r => match decide (k = k') with
    | true => minmaxE isMax k (match isMax with | true => if b > a then b else a | false => if b < a then b else a) r
    | false => none
  | _ => none

theorem minmaxE_ok {isMax : Bool} {k : IntKind} {l : List DX} : ∀ {a : Int} {v : Value}, minmaxE isMax k a l = some v → ∀ {K : Value → Prop}, K v → minmax isMax k a l K := by
  induction l with
  | nil => intro a v h K hK; simp only [minmaxE, Option.some.injEq] at h; subst h; exact hK
  | cons x r ih =>
    intro a v h K hK
    unfold minmaxE at h; unfold minmax
    split at h
    · rename_i e; cases e
    · rename_i e
      cases e
      split at h
      · rename_i e; simp only [e]; exact ih h hK
      · cases h
    · cases h

def builtinE (C : Ctx) (fid : Nat) (b : Builtin) (ats : List TypeId) (args : List (Option DV)) (H : HF) : Option Eff :=
  match b, ats, args with
  | .len, t :: _, [some (.val x)] => match C.ti t with
    | none => none
    | some i => match i.cls, x with
      | .slice _, (false, [.st c]) => match c.isView with
        | true => some (lit (.int .i64 (c.len : Nat)), [], [])
        | false => none
      | .slice _, (false, [.nil]) => some (lit (.int .i64 0), [], [])
      | .slice _, (false, [.own id]) => match H id with
        | some (.row _ _ c) => some (lit (.int .i64 (c.len : Nat)), [], [id])
        | _ => none
      | .str, (false, [.st (.lit (.string s))]) => some (lit (.int .i64 (s.size : Nat)), [], [])
      | .array n _, _ => some (lit (.int .i64 (n : Nat)), [], [])
      | _, _ => none
  | .append, [t, t'], [some (.val x), some (.val y)] => match C.ti t' with
    | some i' => match i'.cls with
      | .slice _ => appendE C fid t x y H
      | _ => none
    | none => none
  | .max, _, some (.val (false, [.st (.lit (.int k a))])) :: r => match r.mapM fun d => match d with | some (.val x) => some x | _ => none with
    | some xs => match minmaxE true k a xs with
      | some v => some (lit v, [], [])
      | none => none
    | none => none
  | .min, _, some (.val (false, [.st (.lit (.int k a))])) :: r => match r.mapM fun d => match d with | some (.val x) => some x | _ => none with
    | some xs => match minmaxE false k a xs with
      | some v => some (lit v, [], [])
      | none => none
    | none => none
  | _, _, _ => none

theorem builtinE_ok {C : Ctx} {fid : Nat} {b : Builtin} {ats : List TypeId} {args : List (Option DV)} {H : HF} {e : Eff} (h : builtinE C fid b ats args H = some e) {K : OpK} (hK : K e.1 e.2.1 e.2.2) : builtinA C fid b ats args H K := by
  unfold builtinE at h; unfold builtinA
  split at h
  · repeat' split at h
    all_goals first | (cases h; done) | (cases h; simp only [*]; done) | (cases h; simp only [*, and_self, true_and, and_true, Option.some.injEq, exists_eq_left', exists_eq_left]; simp only [*, and_self, true_and, and_true, Option.some.injEq, exists_eq_left', exists_eq_left]; done)
  · repeat' split at h
    all_goals first | (cases h; done) | (simp only [*]; exact appendE_ok h hK)
  · split at h
    · rename_i xs hm
      split at h
      · rename_i v hv
        cases h
        dsimp only
        split
        · rename_i ys hm2
          have e : some ys = some xs := hm2.symm.trans hm
          cases e
          refine minmaxE_ok hv ?_; exact hK
        · rename_i hm2
          have e : none = some xs := hm2.symm.trans hm
          cases e
      · cases h
    · cases h
  · split at h
    · rename_i xs hm
      split at h
      · rename_i v hv
        cases h
        dsimp only
        split
        · rename_i ys hm2
          have e : some ys = some xs := hm2.symm.trans hm
          cases e
          refine minmaxE_ok hv ?_; exact hK
        · rename_i hm2
          have e : none = some xs := hm2.symm.trans hm
          cases e
      · cases h
    · cases h
  · cases h

def resE (fid : Nat) (u : Hp) (rs : List Nat) : Res → Sum (List Nat) Eff
  | .one x => .inr (.val (dyn x), u, rs)
  | .tup l => .inr (.tup (l.map dyn), u, rs)
  | .own z c => .inr (one (.own fid), ((fid, some (.row true z c)) :: u), rs)
  | _ => .inl [1000004]

def callE (C : Ctx) (cl : CL) (fid : Nat) (fv : Option DV) (args : List (Option DV)) (ats : List TypeId) (H : HF) : Sum (List Nat) Eff :=
  match fv, vals args with
  | some (.val (false, [.st (.fn f first caps)])), some xs => match statA C H ats xs with
    | some (l, u, rs) => match cl f (first ++ l ++ caps.map fun cs => (false, [.ref cs])) with
      | .inr r => resE fid u rs r
      | .inl p => .inl p
    | none => .inl [1000003]
  | _, _ => .inl [1000002]

theorem callE_ok {C : Ctx} {cl : CL} (hcl : ∀ f a r, cl f a = .inr r → Sat C.P C.gl f a r) {fid : Nat} {fv : Option DV} {args : List (Option DV)} {ats : List TypeId} {H : HF} {e : Eff} (h : callE C cl fid fv args ats H = .inr e) {K : OpK} (hK : K e.1 e.2.1 e.2.2) : callValA C fid fv args ats H K := by
  unfold callE at h; unfold callValA
  split at h
  · split at h
    · split at h
      · rename_i r hr
        simp only [*]
        refine ⟨r, hcl _ _ _ hr, ?_⟩
        cases r <;> simp only [resE] at h <;> first | (cases h; exact hK) | cases h
      · cases h
    · cases h
  · cases h

def convE (C : Ctx) (src dst : TypeId) (x : DX) : Option Eff :=
  match C.ti src, C.ti dst with
  | some i, some j => match i.cls, j.cls, x with
    | .int _, .int k, (false, [.st (.lit (.int _ n))]) => some (lit (.int k (k.wrap n)), [], [])
    | .str, .str, (false, [.st (.lit (.string s))]) => some (lit (.string s), [], [])
    | _, _, _ => none
  | _, _ => none

theorem convE_ok {C : Ctx} {src dst : TypeId} {x : DX} {e : Eff} (h : convE C src dst x = some e) {K : OpK} (hK : K e.1 e.2.1 e.2.2) {H : HF} : convA C src dst x H K := by
  unfold convE at h; unfold convA
  repeat' split at h
  all_goals first | (cases h; done) | (cases h; simp only [*]; done) | (cases h; simp only [*, and_self, true_and, and_true, Option.some.injEq, exists_eq_left', exists_eq_left]; simp only [*, and_self, true_and, and_true, Option.some.injEq, exists_eq_left', exists_eq_left]; done)

def er (n : Nat) : Option Eff → Sum (List Nat) Eff
  | some e => .inr e
  | none => .inl [n]
theorem er_ok {n : Nat} {o : Option Eff} {e : Eff} (h : er n o = .inr e) : o = some e := by
  cases o <;> simp [er] at h ⊢; exact h
def pur (n : Nat) : Option DV → Sum (List Nat) Eff
  | some v => .inr (v, [], [])
  | none => .inl [n]
theorem pur_ok {n : Nat} {o : Option DV} {e : Eff} (h : pur n o = .inr e) : o = some e.1 ∧ e.2.1 = [] ∧ e.2.2 = [] := by
  cases o <;> simp [pur] at h ⊢; subst h; simp

def opE (C : Ctx) (cl : CL) (fid : Nat) (o : Oper) (ev : Operand → Option DV) (H : HF) : Sum (List Nat) Eff :=
  match o.op with
  | .move x => pur 1 (ev x)
  | .assign x => pur 2 (ev x)
  | .pick c a b => match ev c with
    | some (.val (false, [.st (.lit (.bool t))])) => match t with
      | true => pur 3 (ev a)
      | false => pur 4 (ev b)
    | _ => .inl [5]
  | .alloc T => match C.ti T with
    | some i => match zeros i.zero with
      | some cs => .inr (one (.ptr fid 0), [(fid, some (.box T cs))], [])
      | none => .inl [6]
    | none => .inl [7]
  | .box T x => match ev x with
    | some (.val x) => .inr (one (.ptr fid 0), [(fid, some (.box T x.2))], [])
    | _ => .inl [8]
  | .build T parts => match C.ti T with
    | some i => match zeros i.zero with
      | some zs => match i.cls with
        | .struct fs => match fillD (fun n => match fs[n]? with | some (o, ft) => (match C.ti ft with | some fi => some (o, fi.size) | none => none) | none => none) zs (parts.toList.map fun p => (p.1, ev p.2)) with
          | some cs => .inr (.val (true, cs), [], [])
          | none => .inl [9]
        | .array _ e => match C.ti e with
          | some ie => match fillD (fun n => some (n * ie.size, ie.size)) zs (parts.toList.map fun p => (p.1, ev p.2)) with
            | some cs => .inr (.val (true, cs), [], [])
            | none => .inl [10]
          | none => .inl [11]
        | _ => .inl [12]
      | none => .inl [13]
    | none => .inl [14]
  | .buildSlice T len parts => match C.ti T with
    | some i => match i.cls with
      | .slice e => match C.ti e with
        | some ie => match Nat.ble 1 ie.size && Nat.ble (len * ie.size) 16777216 && Nat.beq parts.size len with
          | true => match litElems H ie.kinds ie.size 0 (parts.toList.map fun p => (p.1, ev p.2)) with
            | some (es, u, r) => match mkRow (C.isInts e) es with
              | some c => .inr (one (.own fid), ((fid, some (.row true ie.size c)) :: u), r)
              | none => .inl [15]
            | none => .inl [16]
          | false => .inl [17]
        | none => .inl [18]
      | _ => .inl [19]
    | none => .inl [20]
  | .load T a => match ev a with
    | some (.val x) => er 21 (loadE C T x H)
    | _ => .inl [22]
  | .store T a v => match ev a, ev v with
    | some (.val x), some (.val y) => er 23 (storeE C T x y H)
    | _, _ => .inl [24]
  | .fieldAddr T a f => match ev a with
    | some (.val x) => er 25 (fieldAddrE C T x f)
    | _ => .inl [26]
  | .indexAddr T a ix => match ev a, ev ix with
    | some (.val x), some (.val y) => er 27 (indexAddrE C T x y H)
    | _, _ => .inl [28]
  | .index T a ix => match ev a, ev ix with
    | some (.val x), some (.val y) => er 29 (indexE C T x y)
    | _, _ => .inl [30]
  | .field T a f => match ev a with
    | some (.val x) => er 31 (fieldE C T x f)
    | _ => .inl [32]
  | .slice T x lo hi mx => match ev x, mx with
    | some (.val x), none => er 33 (sliceE C T x (lo.map ev) (hi.map ev) H)
    | _, _ => .inl [34]
  | .binOp op T a b _ => match ev a, ev b with
    | some (.val x), some (.val y) => pur 35 (binE C op T x y)
    | _, _ => .inl [36]
  | .unOp op _ a => match ev a with
    | some (.val x) => pur 37 (unE op x)
    | _ => .inl [38]
  | .convert s d a => match ev a with
    | some (.val x) => er 39 (convE C s d x)
    | _ => .inl [40]
  | .extract t ix => match ev t with
    | some (.tup l) => match l[ix]? with
      | some x => .inr (.val x, [], [])
      | none => .inl [41]
    | _ => .inl [42]
  | .makeFunc (.func f) first caps => er 43 (makeFuncE C f (first.toList.map ev) (caps.toList.map ev) H)
  | .makeSlice T l c => match ev l, ev c with
    | some (.val x), some (.val y) => er 44 (makeSliceE C fid T x y)
    | _, _ => .inl [45]
  | .call c => match c.callee with
    | .value f => match nxOp C f with
      | true => .inl [1000005]
      | false => callE C cl fid (ev f) (c.args.toList.map ev) c.argTypes.toList H
    | .builtin b => er 46 (builtinE C fid b c.argTypes.toList (c.args.toList.map ev) H)
    | _ => .inl [47]
  | _ => .inl [48]

theorem opE_ok {C : Ctx} {cl : CL} (hcl : ∀ f a r, cl f a = .inr r → Sat C.P C.gl f a r) {fid : Nat} {o : Oper} {ev : Operand → Option DV} {H : HF} {e : Eff} (h : opE C cl fid o ev H = .inr e) {K : OpK} (hK : K e.1 e.2.1 e.2.2) : opA C fid o ev H K := by
  unfold opE at h; unfold opA
  repeat' split at h
  all_goals first
    | (cases h; done)
    | (obtain ⟨h1, h2, h3⟩ := pur_ok h; rw [h2, h3] at hK; simp only [*]; done)
    | (obtain ⟨h1, h2, h3⟩ := pur_ok h; rw [h2, h3] at hK; simp only [*]; exact binE_ok h1 hK)
    | (obtain ⟨h1, h2, h3⟩ := pur_ok h; rw [h2, h3] at hK; simp only [*]; exact unE_ok h1 hK)
    | (cases h; simp only [*]; done)
    | (cases h
       rename_i hq
       simp only [*]
       split
       · rename_i h2
         cases (h2.symm.trans hq)
         exact hK
       · rename_i h2
         cases (h2.symm.trans hq))
    | (simp only [*]; exact loadE_ok (er_ok h) hK)
    | (simp only [*]; exact storeE_ok (er_ok h) hK)
    | (simp only [*]; exact fieldAddrE_ok (er_ok h) hK)
    | (simp only [*]; exact indexAddrE_ok (er_ok h) hK)
    | (simp only [*]; exact indexE_ok (er_ok h) hK)
    | (simp only [*]; exact fieldE_ok (er_ok h) hK)
    | (simp only [*]; exact sliceE_ok (er_ok h) hK)
    | (simp only [*]; exact convE_ok (er_ok h) hK)
    | (simp only [*]; exact makeFuncE_ok (er_ok h) hK)
    | (simp only [*]; exact makeSliceE_ok (er_ok h) hK)
    | (simp only [*]; exact callE_ok hcl h hK)
    | (simp only [*]; exact builtinE_ok (er_ok h) hK)

def putL (d : Option Tmp) (r : DV) (E : Env) : Env := match d with
  | none => E
  | some d => (d, some r) :: E

/-- Does the operation run? -/
def gE (all : List Oper) (E : Env) (o : Oper) : Option Bool := match o.guard with
  | none => some true
  | some (j, want) => match dstAt all j with
    | none => none
    | some g => match E.get g with
      | some (.val (false, [.st (.lit (.bool b))])) => some (match b with
        | true => want
        | false => !want)
      | some (.tup []) => some false
      | _ => none

section
variable {C : Ctx} {all rest : List Oper} {n0 i : Nat} {o : Oper} {E : Env} {H : Hp} {t : Trace} {K : Env → Hp → Nat → Trace → Prop}
theorem opsA_run (hg : gE all E o = some true) (h : runO C (n0 + i) o E H t fun E' H' t' => opsA C all n0 rest (i + 1) E' H' t' K) : opsA C all n0 (o :: rest) i E H t K := by
  unfold gE at hg; unfold opsA
  split at hg
  · simp only [*]
  · split at hg
    · cases hg
    · split at hg
      · rename_i b _
        simp only [*]
        unfold guardO
        refine .inl ⟨?_, h⟩
        simp only [Option.some.injEq] at hg
        cases b <;> simp_all
      · cases hg
      · cases hg
theorem opsA_skip (hg : gE all E o = some false) (h : skipO o E H t fun E' H' t' => opsA C all n0 rest (i + 1) E' H' t' K) : opsA C all n0 (o :: rest) i E H t K := by
  unfold gE at hg; unfold opsA
  split at hg
  · cases hg
  · split at hg
    · cases hg
    · split at hg
      · rename_i b _
        simp only [*]
        unfold guardO
        refine .inr (.inl ⟨?_, h⟩)
        simp only [Option.some.injEq] at hg
        cases b <;> simp_all
      · simp only [*]
      · cases hg
end

/-- The rest of a region, run in text order. -/
def opsE (C : Ctx) (cl : CL) (all : List Oper) (n0 : Nat) : List Oper → Nat → Env → Hp → Trace → Sum (List Nat) (Env × Hp × Nat × Trace)
  | [], i, E, H, t => .inr (E, H, i, t)
  | o :: rest, i, E, H, t => match gE all E o with
    | none => .inl [i, 1000001]
    | some true => match opE C cl (n0 + i) o (C.ev E.get) H.get with
      | .inl p => .inl (i :: p)
      | .inr (r, u, R) => opsE C cl all n0 rest (i + 1) (putL o.dst r E) (u ++ H) ((R, u.map Prod.fst) :: t)
    | some false => opsE C cl all n0 rest (i + 1) (putL o.dst (.tup []) E) H (([], []) :: t)

theorem putL_eq {d : Option Tmp} {r : DV} {E : Env} : putL d r E = putE d r E := by cases d <;> rfl

theorem opsE_ok {C : Ctx} {cl : CL} (hcl : ∀ f a r, cl f a = .inr r → Sat C.P C.gl f a r) {all : List Oper} {n0 : Nat} {rest : List Oper} : ∀ {i : Nat} {E : Env} {H : Hp} {t : Trace} {E' : Env} {H' : Hp} {n : Nat} {t' : Trace},
    opsE C cl all n0 rest i E H t = .inr (E', H', n, t') → ∀ {K : Env → Hp → Nat → Trace → Prop}, K E' H' n t' → opsA C all n0 rest i E H t K := by
  induction rest with
  | nil => intro i E H t E' H' n t' h K hK; simp only [opsE, Sum.inr.injEq, Prod.mk.injEq] at h; obtain ⟨rfl, rfl, rfl, rfl⟩ := h; exact hK
  | cons o rest ih =>
    intro i E H t E' H' n t' h K hK
    unfold opsE at h
    split at h
    · cases h
    · rename_i hg
      refine opsA_run hg ?_
      split at h
      · cases h
      · rename_i r u R hr
        unfold runO
        refine opE_ok hcl hr ?_
        rw [appK_iff, putK_iff, ← putL_eq]
        exact ih h hK
    · rename_i hg
      refine opsA_skip hg ?_
      unfold skipO
      rw [putK_iff, ← putL_eq]
      exact ih h hK

/-- A variable is written no more. -/
def sealOne (C : Ctx) (S : St) (x : Operand) : St := match S with
  | ⟨E, H, nx⟩ => match C.ev E.get x with
    | some (.val (false, [.ptr id 0])) => match H.get id with
      | some (.box t cs) => match stat1L H.get (C.kinds t) cs with
        | some (l, u, _) => ⟨E, ((id, some (.fbox l)) :: u) ++ H, nx⟩
        | none => ⟨E, H, nx⟩
      | _ => ⟨E, H, nx⟩
    | _ => ⟨E, H, nx⟩
theorem sealOne_sub (C : Ctx) (S : St) (x : Operand) : Sub S (sealOne C S x) := by
  unfold sealOne
  repeat' split
  all_goals first | exact Sub.refl _ | (exact seal_sub C _ (by assumption) (by assumption))
def sealAll (C : Ctx) : List Operand → St → St
  | [], S => S
  | x :: l, S => sealAll C l (sealOne C S x)
theorem sealAll_sub (C : Ctx) (l : List Operand) : ∀ S, Sub S (sealAll C l S) := by
  induction l with
  | nil => exact fun S => Sub.refl S
  | cons x l ih => exact fun S => (sealOne_sub C S x).trans (ih _)
/-- What is sliced as an array, or captured by a function, is written no more. -/
def seal1 (C : Ctx) (S : St) (o : Oper) : St := match o.op with
  | .slice T x none none none => match C.ti T with
    | some i => match i.cls with
      | .array _ _ => sealOne C S x
      | _ => S
    | none => S
  | .makeFunc _ _ caps => sealAll C caps.toList S
  | _ => S
theorem seal1_sub (C : Ctx) (S : St) (o : Oper) : Sub S (seal1 C S o) := by
  unfold seal1
  repeat' split
  all_goals first | exact Sub.refl _ | exact sealOne_sub C _ _ | exact sealAll_sub C _ _
def sealL (C : Ctx) : List Oper → St → St
  | [], S => S
  | o :: l, S => sealL C l (seal1 C S o)
theorem sealL_sub (C : Ctx) (l : List Oper) : ∀ S, Sub S (sealL C l S) := by
  induction l with
  | nil => exact fun S => Sub.refl S
  | cons o l ih => exact fun S => (seal1_sub C S o).trans (ih _)
def firstOps : Code → List Oper
  | .region _ ops _ => ops.toList
  | .seq x _ => firstOps x
  | .scope c => firstOps c
  | .block _ c => firstOps c
  | _ => []

/-- In sequence, with what the second piece's first region will give away sealed ahead. -/
theorem aSs {C : Ctx} {S : St} {kn : St → Prop} {kx : Nat → St → Prop} {kr : St → Prop} {x y : Code} (h : Awp C x S (fun S => Awp C y (sealL C (firstOps y) S) kn kx kr) kx kr) : Awp C (.seq x y) S kn kx kr :=
  awp_seqw ⟨awp_mono h.out (fun S' h => ⟨_, sealL_sub C _ S', h⟩) (fun _ _ h => h) fun _ h => h⟩

inductive EO where
  | norm (S : St)
  | exit (id : Nat) (S : St)
  | ret (S : St)
  | bad (p : List Nat)

def loopE (body : St → EO) : Nat → St → EO
  | 0, _ => .bad [1000004]
  | n + 1, S => match body S with
    | .norm S' => loopE body n S'
    | o => o

def codeE (C : Ctx) (cl : CL) (fuel : Nat) : Code → St → EO
  | .skip, S => .norm S
  | .label _, S => .norm S
  | .ret, S => .ret S
  | .exit id, S => .exit id S
  | .seq x y, S => match codeE C cl fuel x S with
    | .norm S' => codeE C cl fuel y (sealL C (firstOps y) S')
    | o => o
  | .cond c x y, S => match C.ev S.env.get c with
    | some (.val (false, [.st (.lit (.bool b))])) => match b with
      | true => codeE C cl fuel x S
      | false => codeE C cl fuel y S
    | _ => .bad [1000005]
  | .block id c, S => match codeE C cl fuel c S with
    | .exit id' S' => match Nat.beq id' id with
      | true => .norm S'
      | false => .exit id' S'
    | o => o
  | .loop c, S => loopE (fun S => codeE C cl fuel c S) fuel S
  | .region id ops draw, S => match S with
    | ⟨E, H, nx⟩ => match opsE C cl ops.toList nx ops.toList 0 E H [] with
      | .inl p => .bad (id :: p)
      | .inr (E', H', n, t) => match draw with
        | false => .norm ⟨E', H', nx + n⟩
        | true => match drawOk ops.toList t with
          | true => .norm ⟨E', H', nx + n⟩
          | false => .bad [id, 1000006]
  | .scope c, S => codeE C cl fuel c S
  | _, _ => .bad [1000007]

def EO.holds (C : Ctx) (c : Code) (S : St) : EO → Prop
  | .norm S' => ∀ {kn : St → Prop} {kx : Nat → St → Prop} {kr : St → Prop}, kn S' → awp C c S kn kx kr
  | .exit id S' => ∀ {kn : St → Prop} {kx : Nat → St → Prop} {kr : St → Prop}, kx id S' → awp C c S kn kx kr
  | .ret S' => ∀ {kn : St → Prop} {kx : Nat → St → Prop} {kr : St → Prop}, kr S' → awp C c S kn kx kr
  | .bad _ => True

def EO.loops (C : Ctx) (c : Code) (S : St) : EO → Prop
  | .norm _ => True
  | .exit id S' => ∀ {kx : Nat → St → Prop} {kr : St → Prop}, kx id S' → LFP (fun Z S => awp C c S Z kx kr) S
  | .ret S' => ∀ {kx : Nat → St → Prop} {kr : St → Prop}, kr S' → LFP (fun Z S => awp C c S Z kx kr) S
  | .bad _ => True

theorem loopE_ok {C : Ctx} {c : Code} {body : St → EO} (hb : ∀ S, (body S).holds C c S) : ∀ (n : Nat) (S : St), (loopE body n S).loops C c S ∧ ∀ S', loopE body n S ≠ .norm S' := by
  intro n
  induction n with
  | zero => intro S; exact ⟨trivial, fun S' h => by cases h⟩
  | succ n ih =>
    intro S
    have h := hb S
    unfold loopE
    cases e : body S with
    | norm S' =>
      rw [e] at h
      obtain ⟨h1, h2⟩ := ih S'
      refine ⟨?_, h2⟩
      simp only
      cases e2 : loopE body n S' with
      | norm => trivial
      | bad => trivial
      | exit id S2 => rw [e2] at h1; intro kx kr hk; exact LFP_sub (h (h1 hk))
      | ret S2 => rw [e2] at h1; intro kx kr hk; exact LFP_sub (h (h1 hk))
    | exit id S' => rw [e] at h; exact ⟨fun hk => LFP_sub (h hk), fun S' h => by cases h⟩
    | ret S' => rw [e] at h; exact ⟨fun hk => LFP_sub (h hk), fun S' h => by cases h⟩
    | bad => exact ⟨trivial, fun S' h => by cases h⟩

theorem codeE_ok {C : Ctx} {cl : CL} (hcl : ∀ f a r, cl f a = .inr r → Sat C.P C.gl f a r) {fuel : Nat} {c : Code} : ∀ S, (codeE C cl fuel c S).holds C c S := by
  induction c with
  | skip => intro S kn kx kr h; exact h
  | label l => intro S kn kx kr h; exact h
  | ret => intro S kn kx kr h; exact h
  | exit id => intro S kn kx kr h; exact h
  | seq x y ihx ihy =>
    intro S
    have h := ihx S
    unfold codeE
    cases e : codeE C cl fuel x S with
    | norm S' =>
      rw [e] at h
      have h2 := ihy (sealL C (firstOps y) S')
      simp only
      cases e2 : codeE C cl fuel y (sealL C (firstOps y) S') with
      | bad => trivial
      | norm S2 => rw [e2] at h2; intro kn kx kr hk; exact h ⟨_, sealL_sub C _ S', h2 hk⟩
      | exit id S2 => rw [e2] at h2; intro kn kx kr hk; exact h ⟨_, sealL_sub C _ S', h2 hk⟩
      | ret S2 => rw [e2] at h2; intro kn kx kr hk; exact h ⟨_, sealL_sub C _ S', h2 hk⟩
    | exit id S' => rw [e] at h; intro kn kx kr hk; exact h hk
    | ret S' => rw [e] at h; intro kn kx kr hk; exact h hk
    | bad => trivial
  | cond c x y ihx ihy =>
    intro S
    unfold codeE
    split
    · rename_i b hb
      cases b
      · have h := ihy S
        simp only
        cases e : codeE C cl fuel y S with
        | bad => trivial
        | norm S2 => rw [e] at h; intro kn kx kr hk; unfold awp; simp only [hb]; exact brn_false (h hk)
        | exit id S2 => rw [e] at h; intro kn kx kr hk; unfold awp; simp only [hb]; exact brn_false (h hk)
        | ret S2 => rw [e] at h; intro kn kx kr hk; unfold awp; simp only [hb]; exact brn_false (h hk)
      · have h := ihx S
        simp only
        cases e : codeE C cl fuel x S with
        | bad => trivial
        | norm S2 => rw [e] at h; intro kn kx kr hk; unfold awp; simp only [hb]; exact brn_true (h hk)
        | exit id S2 => rw [e] at h; intro kn kx kr hk; unfold awp; simp only [hb]; exact brn_true (h hk)
        | ret S2 => rw [e] at h; intro kn kx kr hk; unfold awp; simp only [hb]; exact brn_true (h hk)
    · trivial
  | block id c ih =>
    intro S
    have h := ih S
    unfold codeE
    cases e : codeE C cl fuel c S with
    | norm S' => rw [e] at h; intro kn kx kr hk; exact h hk
    | exit id' S' =>
      rw [e] at h
      simp only
      cases eb : Nat.beq id' id
      · intro kn kx kr hk; refine h ?_; simp only [eb]; exact hk
      · intro kn kx kr hk; refine h ?_; simp only [eb]; exact hk
    | ret S' => rw [e] at h; intro kn kx kr hk; exact h hk
    | bad => trivial
  | loop c ih =>
    intro S
    obtain ⟨h1, h2⟩ := loopE_ok (fun S => ih S) fuel S
    unfold codeE
    cases e : loopE (fun S => codeE C cl fuel c S) fuel S with
    | norm S' => exact absurd e (h2 S')
    | exit id S' => rw [e] at h1; intro kn kx kr hk; exact ⟨S, Sub.refl _, h1 hk⟩
    | ret S' => rw [e] at h1; intro kn kx kr hk; exact ⟨S, Sub.refl _, h1 hk⟩
    | bad => trivial
  | region id ops draw =>
    intro S
    obtain ⟨E, H, nx⟩ := S
    unfold codeE
    simp only
    split
    · trivial
    · rename_i E' H' n t hr
      cases draw
      · intro kn kx kr hk; exact opsE_ok hcl hr hk
      · simp only
        cases hd : drawOk ops.toList t
        · trivial
        · intro kn kx kr hk; exact opsE_ok hcl hr ⟨hd, hk⟩
  | scope c ih =>
    intro S
    have h := ih S
    unfold codeE
    cases e : codeE C cl fuel c S with
    | norm S' => rw [e] at h; intro kn kx kr hk; exact h hk
    | exit id' S' => rw [e] at h; intro kn kx kr hk; exact h hk
    | ret S' => rw [e] at h; intro kn kx kr hk; exact h hk
    | bad => trivial
  | rangeFunc => intro S; unfold codeE; trivial
  | goto => intro S; unfold codeE; trivial
  | refuse => intro S; unfold codeE; trivial

def resVarsE (C : Ctx) (H : HF) (E : EF) : List ResultVar → Option (List DX)
  | [] => some []
  | .tmp t :: rs => match E t with
    | some (.val x) => match resVarsE C H E rs with
      | some xs => some (x :: xs)
      | none => none
    | _ => none
  | .cell a t :: rs => match E a with
    | some (.val x) => match loadE C t x H with
      | some (.val y, [], _) => match resVarsE C H E rs with
        | some xs => some (y :: xs)
        | none => none
      | _ => none
    | _ => none

theorem resVarsE_ok {C : Ctx} {H : HF} {E : EF} {rs : List ResultVar} : ∀ {xs : List DX}, resVarsE C H E rs = some xs → ∀ {K : List DX → Prop}, K xs → resVars C H E rs K := by
  induction rs with
  | nil => intro xs h K hK; simp only [resVarsE, Option.some.injEq] at h; subst h; exact hK
  | cons r rs ih =>
    intro xs h K hK
    cases r with
    | tmp t =>
      unfold resVarsE at h; unfold resVars
      split at h
      · rename_i hx
        split at h
        · rename_i hxs
          cases h
          simp only [hx]; exact ih hxs hK
        · cases h
      · cases h
    | cell a t =>
      unfold resVarsE at h; unfold resVars
      split at h
      · rename_i hx
        split at h
        · rename_i hl
          split at h
          · rename_i hxs
            cases h
            simp only [hx]
            refine loadE_ok hl ?_
            exact ih hxs hK
          · cases h
        · cases h
      · cases h

def retXE (C : Ctx) (H : HF) (ts : List TypeId) (xs : List DX) : Option Res := match ownOf H xs with
  | some (z, c) => some (.own z c)
  | none => match statA C H ts xs with
    | some (l, _, _) => match allFlat l with
      | true => match l with
        | [y] => some (.one y)
        | l => some (.tup l)
      | false => none
    | none => none

theorem retXE_ok {C : Ctx} {H : HF} {ts : List TypeId} {xs : List DX} {r : Res} (h : retXE C H ts xs = some r) {K : Res → Prop} (hK : K r) : retX C H ts xs K := by
  unfold retXE at h; unfold retX
  repeat' split at h
  all_goals first | (cases h; done) | (cases h; simp only [*]; done) | (cases h; simp only [*, and_self, true_and, and_true, Option.some.injEq, exists_eq_left', exists_eq_left]; simp only [*, and_self, true_and, and_true, Option.some.injEq, exists_eq_left', exists_eq_left]; done)

def retE (C : Ctx) (fn : Func) (S : St) : Option Res := match resVarsE C S.hp.get S.env.get fn.results.toList with
  | some xs => retXE C S.hp.get fn.resultTypes.toList xs
  | none => none

theorem retE_ok {C : Ctx} {fn : Func} {S : St} {r : Res} (h : retE C fn S = some r) {K : Res → Prop} (hK : K r) : retA C fn S K := by
  unfold retE at h; unfold retA
  split at h
  · rename_i hx; exact resVarsE_ok hx (retXE_ok h hK)
  · cases h

/-- A function, called with known values. -/
def fnE (C : Ctx) (L : Nat) : Nat → CL
  | 0, f, _ => .inl [f, 1000008]
  | n + 1, f, args => match C.P.funcs[f]? with
    | none => .inl [f, 1000009]
    | some fn => match fn.body with
      | none => .inl [f, 1000010]
      | some c => match fnOk C.P f && codeOk fn.ntmps c && Nat.ble args.length fn.ntmps with
        | false => .inl [f, 1000011]
        | true => match codeE C (fnE C L n) L c (entry args) with
          | .norm S => match retE C fn S with
            | some r => .inr r
            | none => .inl [f, 1000012]
          | .ret S => match retE C fn S with
            | some r => .inr r
            | none => .inl [f, 1000012]
          | .bad p => .inl (f :: p)
          | .exit _ _ => .inl [f, 1000013]

theorem fnE_ok {C : Ctx} (hC : C.Ok) {L : Nat} : ∀ (n : Nat) (f : FuncId) (args : List SV) (r : Res), fnE C L n f args = .inr r → Sat C.P C.gl f args r := by
  intro n
  induction n with
  | zero => intro f args r h; cases h
  | succ n ih =>
    intro f args r h
    unfold fnE at h
    split at h
    · cases h
    · rename_i fn hf
      split at h
      · cases h
      · rename_i c hb
        split at h
        · cases h
        · rename_i hok
          simp only [Bool.and_eq_true] at hok
          have hc := codeE_ok (C := C) (cl := fnE C L n) (fun f a r h => ih f a r h) (fuel := L) (c := c) (entry args)
          refine Sat_of_awp hC hok.1.1 hf hb hok.1.2 (Nat.le_of_ble_eq_true hok.2) ⟨?_⟩
          split at h
          · rename_i e
            rw [e] at hc
            split at h
            · rename_i hr; cases h; exact hc (retE_ok hr rfl)
            · cases h
          · rename_i e
            rw [e] at hc
            split at h
            · rename_i hr; cases h; exact hc (retE_ok hr rfl)
            · cases h
          · cases h
          · cases h
end Go.Fw
