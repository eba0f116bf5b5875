/- Framework, part sx: rows whose elements hold rows of their own are made and appended to; maps with strings as keys. Program independent. -/

import Derived.Test.YtnbfdfmphbehoaaGreatDoorFb
import Derived.MapKept
import Derived.Laws.IdiomStrings
namespace Go.Fw
open Go.RowKit (Below)
open Classical
def litD (z : Nat) : Nat → List (Nat × Option DV) → Option (List (List DC))
  | _, [] => some []
  | n, (i, some (.val x)) :: rest => match Nat.beq i n && Nat.beq x.2.length z with
    | true => match litD z (n + 1) rest with
      | some l => some (x.2 :: l)
      | none => none
    | false => none
  | _, _ => none
def deepOf (H : HF) (z : Nat) : DC → Option (List (List DC) × List Nat)
  | .nil => some ([], [])
  | .own id => match H id with
    | some (.rowD z' l) => match Nat.beq z' z with
      | true => some (l, [id])
      | false => none
    | _ => none
  | .st (.view es) => some (es.map fun e => e.map .st, [])
  | _ => none
def bytesV (s : ByteArray) : List (List SC) := s.data.toList.map fun b => [.lit (.int .u8 (b.toNat : Nat))]
def staticL : List DC → Option (List SC)
  | [] => some []
  | .st c :: l => match staticL l with
    | some cs => some (c :: cs)
    | none => none
  | _ => none
def findD : List (ByteArray × SV) → ByteArray → Option SV
  | [], _ => none
  | (k, x) :: es, a => match a == k with
    | true => some x
    | false => findD es a
def putD : List (ByteArray × SV) → ByteArray → SV → List (ByteArray × SV)
  | [], a, x => [(a, x)]
  | (k, y) :: es, a, x => match a == k with
    | true => (k, x) :: es
    | false => (k, y) :: putD es a x
def strKey (C : Ctx) (k : TypeId) : Bool := match C.ti k with
  | some i => match i.cls with
    | .str => true
    | _ => false
  | none => false
def mzGet : List (Nat × Bool) → Nat → Option Bool
  | [], _ => none
  | (j, b) :: H, i => match Nat.beq i j with
    | true => some b
    | false => mzGet H i
def zeroS (C : Ctx) (e : TypeId) : Option SV := match C.ti e, mzGet C.mz e with
  | some ie, some ag => match zerosS ie.kinds ie.zero with
    | some cs => some (ag, cs)
    | none => none
  | _, _ => none
def orZ : Option SV → SV → SV
  | some x, _ => x
  | none, z => z
def isS : Option SV → Bool
  | some _ => true
  | none => false
def fromMap (found : Option SV) (zero : SV) (ok : Bool) : DV := match ok with
  | false => .val (dyn (orZ found zero))
  | true => .tup [dyn (orZ found zero), (false, [.st (.lit (.bool (isS found)))])]
def effX (C : Ctx) (fid : Nat) (o : Oper) (ev : Operand → Option DV) (H : HF) : Option (Prop × DV × Hp × List Nat) := match o.op with
  | .buildSlice T len parts => match C.ti T with
    | some i => match i.cls with
      | .slice e => match C.ti e, natIn e C.deep with
        | some ie, true => match Nat.ble 1 ie.size && Nat.ble (len * ie.size) 16777216 && Nat.beq parts.size len with
          | true => match litD ie.size 0 (parts.toList.map fun p => (p.1, ev p.2)) with
            | some l => some (True, one (.own fid), [(fid, some (.rowD ie.size l))], [])
            | none => none
          | false => none
        | _, _ => none
      | _ => none
    | none => none
  | .call c => match c.callee, c.argTypes.toList, c.args.toList.map ev with
    | .builtin .append, [t, t'], [some (.val (false, [x])), some (.val (false, [y]))] => match C.ti t, C.ti t' with
      | some i, some i' => match i.cls, i'.cls with
        | .slice e, .slice _ => match C.ti e, natIn e C.deep with
          | some ie, true => match Nat.ble 1 ie.size && Nat.ble ie.bytes 4096 && Nat.beq ie.zero.length ie.size with
            | true => match deepOf H ie.size y with
              | some (ly, ry) => match x with
                | .nil => some ((∀ e ∈ ly, e.length = ie.size) ∧ ly.length ≤ LIM, one (.own fid), [(fid, some (.rowD ie.size ly))], ry)
                | .own id => match H id with
                  | some (.rowD z l) => match Nat.beq z ie.size with
                    | true => some ((∀ e ∈ ly, e.length = ie.size) ∧ l.length + ly.length ≤ LIM, one (.own fid), [(fid, some (.rowD z (l ++ ly))), (id, none)], id :: ry)
                    | false => none
                  | _ => none
                | _ => none
              | none => none
            | false => none
          | _, _ => none
        | _, _ => none
      | _, _ => none
    | _, _, _ => none
  | .makeMap T none => match C.ti T with
    | some i => match i.cls with
      | .map _ _ => some (True, one (.mp fid), [(fid, some (.map []))], [])
      | _ => none
    | none => none
  | .insert T m k v => match C.ti T, ev m, ev k, ev v with
    | some i, some (.val (false, [.mp id])), some (.val (false, [.st (.lit (.string a))])), some (.val (ag, cs)) => match i.cls, H id, staticL cs with
      | .map kt _, some (.map es), some l => match strKey C kt with
        | true => some (True, .tup [], [(id, some (.map (putD es a (ag, l))))], [id])
        | false => none
      | _, _, _ => none
    | _, _, _, _ => none
  | .mapUpdate T m k v => match C.ti T, ev m, ev k, ev v with
    | some i, some (.val (false, [.mp id])), some (.val (false, [.st (.lit (.string a))])), some (.val (ag, cs)) => match i.cls, H id, staticL cs with
      | .map kt _, some (.map es), some l => match strKey C kt with
        | true => some (True, .tup [], [(id, some (.map (putD es a (ag, l))))], [id])
        | false => none
      | _, _, _ => none
    | _, _, _, _ => none
  | .lookup T m k ok => match C.ti T, ev m, ev k with
    | some i, some (.val (false, [.mp id])), some (.val (false, [.st (.lit (.string a))])) => match i.cls, H id with
      | .map kt et, some (.map es) => match strKey C kt, zeroS C et with
        | true, some z => some (True, fromMap (findD es a) z ok, [], [id])
        | _, _ => none
      | _, _ => none
    | _, _, _ => none
  | .convert src dst x => match C.ti src, C.ti dst, ev x with
    | some i, some j, some (.val (false, [.st (.lit (.string s))])) => match i.cls, j.cls with
      | .str, .slice e => match isByte C e with
        | true => some (True, one (.st (.view (bytesV s))), [], [])
        | false => none
      | _, _ => none
    | _, _, _ => none
  | .nilCheck x => match ev x with
    | some (.val (false, [d])) => match isPtr d with
      | some true => some (True, one d, [], [])
      | _ => none
    | _ => none
  | .slice T (.global g) none none none => match C.ti T with
    | some i => match i.cls with
      | .array n e => match C.ti e with
        | some _ => some (True, one (.st (.raw (.slice (some ⟨g, 0, none⟩) n n))), [], [])
        | none => none
      | _ => none
    | none => none
  | .sliceToArrayPointer T x => match C.ti T, ev x with
    | some i, some (.val (false, [.st (.ints l)])) => match i.cls with
      | .array n _ => some (1 ≤ n ∧ n ≤ l.length, one (.st (.ref ((l.take n).map fun k => .lit (.int .i64 k)))), [], [])
      | _ => none
    | _, _ => none
  | .makeFunc (.func f) first caps => match first.toList, caps.toList.map ev with
    | [], [some (.val (false, [.ptr id 0]))] => some (True, one (.clo f id), [], [])
    | _, _ => none
  | _ => none
def opX (C : Ctx) (fid : Nat) (o : Oper) (ev : Operand → Option DV) (H : HF) (K : OpK) : Prop := match effX C fid o ev H with
  | some (P, r, u, R) => P ∧ K r u R
  | none => False
theorem deepOf_local {H H' : HF} {z : Nat} {d : DC} {l : List (List DC)} {R : List Nat} (h : deepOf H z d = some (l, R)) (hH : ∀ id ∈ R, H' id = H id) : deepOf H' z d = some (l, R) := by
  cases d with
  | own id =>
    simp only [deepOf] at h ⊢
    split at h
    · rename_i z' l' e
      split at h
      · rename_i hz
        simp at h; obtain ⟨rfl, rfl⟩ := h
        rw [hH id (by simp), e]
        simp only [hz]
      · cases h
    · cases h
  | st c => cases c <;> exact h
  | _ => exact h
section
variable {C : Ctx} {fid : Nat}
theorem effX_local {o : Oper} {ev ev' : Operand → Option DV} {H H' : HF} {P : Prop} {r : DV} {u : Hp} {R : List Nat} (h : effX C fid o ev H = some (P, r, u, R)) (he : ∀ x ∈ o.op.operands.toList, ev' x = ev x) (hH : ∀ id ∈ R, H' id = H id) :
    effX C fid o ev' H' = some (P, r, u, R) := by
  unfold effX at h ⊢
  cases ho : o.op with
  | buildSlice T len parts =>
    rw [ho] at h
    simp only at h ⊢
    have hparts : (parts.toList.map fun p => (p.1, ev' p.2)) = parts.toList.map fun p => (p.1, ev p.2) := by
      refine List.map_congr_left fun p hp => ?_
      rw [he p.2 (by rw [ho]; simp [Op.operands]; exact ⟨p.1, by simpa using hp⟩)]
    rw [hparts]; exact h
  | call c =>
    rw [ho] at h
    simp only at h ⊢
    have hmap : c.callee = .builtin .append → c.args.toList.map ev' = c.args.toList.map ev := fun hc => List.map_congr_left fun x hx => he x (by rw [ho]; simp [Op.operands, Call.operands, hc]; simpa using hx)
    split at h
    rotate_left
    · cases h
    rename_i t t' x y hc hts hargs
    rw [hmap hc, hc, hts, hargs]
    simp only
    split at h
    rotate_left
    · cases h
    rename_i i i' hi hi'
    split at h
    rotate_left
    · cases h
    rename_i e _ hcl hcl'
    split at h
    rotate_left
    · cases h
    rename_i ie hie hdp
    split at h
    rotate_left
    · cases h
    rename_i hb
    split at h
    rotate_left
    · cases h
    rename_i ly ry hdy
    split at h
    · simp only [Option.some.injEq, Prod.mk.injEq] at h
      obtain ⟨rfl, rfl, rfl, rfl⟩ := h
      rw [deepOf_local hdy hH]
    · rename_i id
      split at h
      · rename_i z l hid
        split at h
        · rename_i hz
          simp only [Option.some.injEq, Prod.mk.injEq] at h
          obtain ⟨rfl, rfl, rfl, rfl⟩ := h
          rw [deepOf_local hdy fun j hj => hH j (List.mem_cons_of_mem _ hj)]
          simp only
          rw [hH id List.mem_cons_self, hid]
          simp only [hz]
        · cases h
      · cases h
    · cases h
  | makeMap T r =>
    rw [ho] at h
    cases r with
    | none => exact h
    | some x => exact h
  | insert T m k v =>
    rw [ho] at h
    simp only at h ⊢
    rw [he m (by rw [ho]; simp [Op.operands]), he k (by rw [ho]; simp [Op.operands]), he v (by rw [ho]; simp [Op.operands])]
    split at h
    · rename_i i id a ag cs hi hm hk hv
      split at h
      · rename_i kt _ es l hcl hid hl
        split at h
        · rename_i hs
          simp only [Option.some.injEq, Prod.mk.injEq] at h
          obtain ⟨rfl, rfl, rfl, rfl⟩ := h
          rw [hcl, hH id List.mem_cons_self, hid, hl]
          simp only [hs]
        · cases h
      · cases h
    · cases h
  | mapUpdate T m k v =>
    rw [ho] at h
    simp only at h ⊢
    rw [he m (by rw [ho]; simp [Op.operands]), he k (by rw [ho]; simp [Op.operands]), he v (by rw [ho]; simp [Op.operands])]
    split at h
    · rename_i i id a ag cs hi hm hk hv
      split at h
      · rename_i kt _ es l hcl hid hl
        split at h
        · rename_i hs
          simp only [Option.some.injEq, Prod.mk.injEq] at h
          obtain ⟨rfl, rfl, rfl, rfl⟩ := h
          rw [hcl, hH id List.mem_cons_self, hid, hl]
          simp only [hs]
        · cases h
      · cases h
    · cases h
  | lookup T m k ok =>
    rw [ho] at h
    simp only at h ⊢
    rw [he m (by rw [ho]; simp [Op.operands]), he k (by rw [ho]; simp [Op.operands])]
    split at h
    · rename_i i id a hi hm hk
      split at h
      · rename_i kt et es hcl hid
        split at h
        · rename_i z hs hz
          simp only [Option.some.injEq, Prod.mk.injEq] at h
          obtain ⟨rfl, rfl, rfl, rfl⟩ := h
          rw [hcl, hH id List.mem_cons_self, hid]
          simp only [hs, hz]
        · cases h
      · cases h
    · cases h
  | convert src dst x =>
    rw [ho] at h
    simp only at h ⊢
    rw [he x (by rw [ho]; simp [Op.operands])]
    exact h
  | nilCheck x =>
    rw [ho] at h
    simp only at h ⊢
    rw [he x (by rw [ho]; simp [Op.operands])]
    exact h
  | sliceToArrayPointer T x =>
    rw [ho] at h
    simp only at h ⊢
    rw [he x (by rw [ho]; simp [Op.operands])]
    exact h
  | slice T x lo hi mx =>
    rw [ho] at h
    cases x with
    | global g => cases lo <;> cases hi <;> cases mx <;> first | exact h | cases h
    | _ => cases h
  | makeFunc fn first caps =>
    rw [ho] at h
    cases fn with
    | func f =>
      simp only at h ⊢
      have hmap : caps.toList.map ev' = caps.toList.map ev := List.map_congr_left fun x hx => he x (by rw [ho]; simp [Op.operands]; right; simpa using hx)
      rw [hmap]; exact h
    | _ => cases h
  | _ => rw [ho] at h; cases h
theorem opX_local {o : Oper} {ev : Operand → Option DV} {H : HF} {K : OpK} (h : opX C fid o ev H K) : ∃ r u R, K r u R ∧ ∀ (ev' : Operand → Option DV) (H' : HF) (K' : OpK), (∀ x ∈ o.op.operands.toList, ev' x = ev x) → (∀ id ∈ R, H' id = H id) → K' r u R → opX C fid o ev' H' K' := by
  unfold opX at h
  split at h
  · rename_i P r u R he
    refine ⟨r, u, R, h.2, fun ev' H' K' hev hH hK => ?_⟩
    unfold opX
    rw [effX_local he hev hH]
    exact ⟨h.1, hK⟩
  · exact h.elim
end
end Go.Fw
namespace Go.Fw
open Go.RowKit (Below)
open Classical
section
variable {C : Ctx} {F : Fix} {β : Nat → Option Nat} {N : Nat → Prop} {H : HF} {fid : Nat} {K : OpK} {w w' : World} {P : Program}
theorem litD_ok {z : Nat} : ∀ {ps : List (Nat × Option DV)} {n : Nat} {l : List (List DC)}, litD z n ps = some l → l.length = ps.length ∧ ∀ (k : Nat) (e : List DC), l[k]? = some e → ∃ ag, ps[k]? = some (n + k, some (.val (ag, e))) ∧ e.length = z
  | [], n, l, h => by simp [litD] at h; subst h; simp
  | p :: ps, n, l, h => by
    unfold litD at h
    split at h
    · rename_i heq; cases heq
    · rename_i n0 i x rest heq
      cases heq
      split at h
      · rename_i hb
        obtain ⟨h1, h2⟩ := ble_and hb
        have h1 := Nat.eq_of_beq_eq_true h1
        have h2 := Nat.eq_of_beq_eq_true h2
        subst h1
        split at h
        · rename_i l' hl
          simp at h; subst h
          obtain ⟨q1, q2⟩ := litD_ok hl
          refine ⟨by simp [q1], fun k e hk => ?_⟩
          cases k with
          | zero => simp at hk; subst hk; exact ⟨x.1, rfl, h2⟩
          | succ k =>
            obtain ⟨ag, a1, a2⟩ := q2 k e (by simpa using hk)
            exact ⟨ag, by simpa [Nat.add_assoc, Nat.add_comm 1 k] using a1, a2⟩
        · cases h
      · cases h
    · cases h
theorem buildDeep_ok (hC : C.Ok) (hG : Globs C F) (hR : HeapRel F β N H w) (hf : ¬ N fid) {E : EF} {a : Act} (hE : EnvRel F β N H w E a) {T : TypeId} {len : Nat} {parts : Array (Nat × Operand)} {i ie : TI} {e : TypeId} {l : List (List DC)}
    (hi : C.ti T = some i) (hcls : i.cls = .slice e) (hie : C.ti e = some ie) (h1 : 1 ≤ ie.size) (h2 : len * ie.size ≤ 16777216) (h3 : parts.size = len) (hl : litD ie.size 0 (parts.toList.map fun p => (p.1, C.ev E p.2)) = some l) :
    ∃ v w', (Instr.buildSlice T len (parts.map fun p => (p.1, a.eval p.2))).run C.P w = .ok v w' ∧ Post F β N H fid (fun r u R => r = one (.own fid) ∧ u = [(fid, some (.rowD ie.size l))] ∧ R = []) w v w' := by
  obtain ⟨hpl0, hp⟩ := parts_ok hG hR hE parts
  obtain ⟨tf, d, z, hT⟩ := hC.get hi
  have hd := cls_slice (hT.cls.trans hcls)
  obtain ⟨ef, ed, ez, hE'⟩ := hC.get hie
  obtain ⟨q2, q3⟩ := litD_ok hl
  have hlen : l.length = len := by rw [q2]; simpa using h3
  have hzero : ∃ arr0 : Array Value, arr0.size = len * ie.size ∧ ∀ cells, Instr.fill (fun i => some (i * ie.size, ie.size)) arr0 (parts.map fun (p : Nat × Operand) => (p.1, a.eval p.2)).toList = some cells →
      (Instr.buildSlice T len (parts.map fun (p : Nat × Operand) => (p.1, a.eval p.2))).run C.P w = .ok (.slice (some ⟨w.heap.size, 0, none⟩) len len) (w.alloc (.cells cells e)) := by
    have hn : ¬ (len * ie.size > 2 ^ 24) := by
      have : (2:Nat) ^ 24 = 16777216 := by decide
      omega
    refine ⟨(Array.range (len * ie.size)).map (fun x => (if len * ie.size = 0 then #[] else ez.cells)[x % (if len * ie.size = 0 then #[] else ez.cells).size]!), by simp, fun cells hcells => ?_⟩
    simp only [Instr.buildSlice, Sem.run_bind, hT.run_und, hd, Result.andThen_ok, hE'.run_size, hn, if_false]
    by_cases h0 : len * ie.size = 0
    · rw [if_pos h0] at hcells
      simp only [h0, if_true, Sem.run_bind, Sem.run_pure, Result.andThen_ok]
      rw [h0] at hcells
      rw [hcells]
      simp [newRow]
    · rw [if_neg h0] at hcells
      simp only [h0, if_false, Sem.run_bind, hE'.run_zero, Result.andThen_ok, Sem.run_pure]
      rw [hcells]
      simp [newRow]
  obtain ⟨arr0, hs0, hrun⟩ := hzero
  have hpl : (parts.map fun (p : Nat × Operand) => (p.1, a.eval p.2)).toList.length = len := by simpa using h3
  have hpart : ∀ (k : Nat) (p : Nat × Value), (parts.map fun (p : Nat × Operand) => (p.1, a.eval p.2)).toList[k]? = some p → ∃ ag e, l[k]? = some e ∧ p.1 = k ∧ e.length = ie.size ∧ RepDX F β N H w p.2 (ag, e) := by
    intro k p hk
    have hkl : k < l.length := by rw [hlen, ← hpl]; exact (List.getElem?_eq_some_iff.1 hk).1
    obtain ⟨ag, a1, a2⟩ := q3 k l[k] (by simp [hkl])
    obtain ⟨b1, b2⟩ := hp k p _ hk a1
    exact ⟨ag, l[k], by simp [hkl], by simpa using b1, a2, b2 _ rfl⟩
  obtain ⟨arr', f1, f2, f3, f4⟩ := fill_seq (z := ie.size) (parts := (parts.map fun (p : Nat × Operand) => (p.1, a.eval p.2)).toList) (n := 0) (arr := arr0) (fun k p hk => by
    obtain ⟨ag, e, a1, a2, a3, a4⟩ := hpart k p hk
    exact ⟨by omega, by rw [a4.cells.1, a3]⟩) (by rw [hpl, hs0]; simp)
  refine ⟨.slice (some ⟨w.heap.size, 0, none⟩) len len, w.alloc (.cells arr' e), hrun _ f1, ?_⟩
  refine Post.new (u := []) (b := some w.heap.size) hR Tr.refl hf (Below.alloc1 w _) (by simp) ⟨rfl, rfl, rfl⟩ (fun H1 hH1 t1 t2 => ?_) (fun H1 hH1 => repOne ⟨.inr rfl, rfl, fun blk0 z' n' hb hz' => ?_⟩)
  · have hel : ∀ (i : Nat) (e : List DC), l[i]? = some e → e.length = ie.size := fun i e he => let ⟨_, _, h⟩ := q3 i e he; h
    refine ⟨⟨h1, hel⟩, .inr ⟨w.heap.size, len, arr', e, by simp [setB], Fix.mine_new hR.below.size, alloc_at w _, by rw [f2, hs0], by omega, fun i e j x he hx => ?_⟩⟩
    have hil : i < (parts.map fun (p : Nat × Operand) => (p.1, a.eval p.2)).toList.length := by rw [hpl, ← hlen]; exact (List.getElem?_eq_some_iff.1 he).1
    obtain ⟨ag, e0, a1, a2, a3, a4⟩ := hpart i _ (List.getElem?_eq_getElem hil)
    rw [he] at a1; cases a1
    have hjz : j < ie.size := by rw [← a3]; exact (List.getElem?_eq_some_iff.1 hx).1
    have := f3 i _ j (List.getElem?_eq_getElem hil) hjz
    rw [Nat.zero_add] at this
    rw [getD_congr this]
    exact t1.repD hR (a4.cells.2 j x hx)
  · subst hH1
    rw [updH_same] at hb; cases hb; cases hz'
    exact .inr ⟨w.heap.size, len, arr', e, by simp [setB], by rw [hlen], alloc_at w _, by rw [f2, hs0]⟩
structure ContD (F : Fix) (β : Nat → Option Nat) (N : Nat → Prop) (H : HF) (w : World) (z : Nat) (l : List (List DC)) (arr : Array Value) : Prop where
  size : arr.size = l.length * z
  uni : ∀ (i : Nat) (e : List DC), l[i]? = some e → e.length = z
  rep : ∀ (i : Nat) (e : List DC) (j : Nat) (x : DC), l[i]? = some e → e[j]? = some x → RepD F β N H w (arr.getD (i * z + j) undef) x
theorem ContD.one {z : Nat} {l : List (List DC)} {new : Array Value} (hc : ContD F β N H w z l new) (hz : 0 < z) : ∀ u ∈ new.toList, u.oneCell' = true := by
  intro u hu
  obtain ⟨k, hk⟩ := List.mem_iff_getElem?.1 hu
  have hk' : new[k]? = some u := by simpa using hk
  have hlt : k < new.size := (Array.getElem?_eq_some_iff.1 hk').1
  have hi : k / z < l.length := by rw [Nat.div_lt_iff_lt_mul hz, ← hc.size]; exact hlt
  have he : l[k / z]? = some l[k / z] := by simp [hi]
  have hj : k % z < (l[k / z]).length := by rw [hc.uni _ _ he]; exact Nat.mod_lt _ hz
  have := hc.rep _ _ (k % z) (l[k / z])[k % z] he (by simp [hj])
  rw [Nat.mul_comm, Nat.div_add_mod, getD_of hk'] at this
  exact this.one_cell
theorem ContD.cat {z : Nat} {c d : List (List DC)} {a b rest : Array Value} (hc : ContD F β N H w z c a) (hd : ContD F β N H w z d b) :
    (∀ (i : Nat) (e : List DC), (c ++ d)[i]? = some e → e.length = z) ∧ ∀ (i : Nat) (e : List DC) (j : Nat) (x : DC), (c ++ d)[i]? = some e → e[j]? = some x → RepD F β N H w ((a ++ b ++ rest).getD (i * z + j) undef) x := by
  have huni : ∀ (i : Nat) (e : List DC), (c ++ d)[i]? = some e → e.length = z := by
    intro i e he
    rw [List.getElem?_append] at he
    by_cases hi : i < c.length
    · rw [if_pos hi] at he; exact hc.uni i e he
    · rw [if_neg hi] at he; exact hd.uni _ e he
  refine ⟨huni, fun i e j x he hx => ?_⟩
  have hj : j < z := by rw [← huni i e he]; exact (List.getElem?_eq_some_iff.1 hx).1
  rw [List.getElem?_append] at he
  by_cases hi : i < c.length
  · rw [if_pos hi] at he
    have hlt : i * z + j < a.size := by
      rw [hc.size]
      have : (i + 1) * z ≤ c.length * z := Nat.mul_le_mul_right _ hi
      rw [Nat.add_mul] at this; omega
    rw [getD_congr (b := a) (l := i * z + j) (by rw [Array.append_assoc, Array.getElem?_append_left hlt])]
    exact hc.rep i e j x he hx
  · rw [if_neg hi] at he
    have hi2 := (List.getElem?_eq_some_iff.1 he).1
    have e1 : (i - c.length) * z + c.length * z = i * z := by rw [← Nat.add_mul]; congr 1; omega
    have hlt : (i - c.length) * z + j < b.size := by
      rw [hd.size]
      have : (i - c.length + 1) * z ≤ d.length * z := Nat.mul_le_mul_right _ hi2
      rw [Nat.add_mul] at this; omega
    rw [getD_congr (b := b) (l := (i - c.length) * z + j) (by
      rw [Array.getElem?_append_left (by simp; rw [hc.size]; omega), Array.getElem?_append_right (by rw [hc.size]; omega), hc.size]
      congr 1; omega)]
    exact hd.rep _ e j x he hx
theorem deep_contents (hG : Globs C F) (hR : HeapRel F β N H w) {z : Nat} {v : Value} {d : DC} {l : List (List DC)} {R : List Nat} (hd : RepD F β N H w v d) (h : deepOf H z d = some (l, R)) (hz : 0 < z) (hu : ∀ e ∈ l, e.length = z) :
    ∃ a cap new, v = .slice a l.length cap ∧ (Builtin.firstCells z l.length v).run P w = .ok new w ∧ l.length ≤ cap ∧ ContD F β N H w z l new := by
  have hst : ∀ {es : List (List SC)}, Rep (MV F β H w) (MR F β H w) v (.view es) → (∀ e ∈ es, e.length = z) → ∃ a cap new, v = .slice a es.length cap ∧ (Builtin.firstCells z es.length v).run P w = .ok new w ∧ es.length ≤ cap ∧ ContD F β N H w z (es.map fun e => e.map .st) new := by
    intro es hv hes
    obtain ⟨a, cap, new, q1, q2, q3, q4, q5⟩ := contents_ok (P := P) (z := z) (d := .st (.view es)) (c := .view es) (k := false) hG hR hv rfl rfl hz (fun i e he => hes e (List.mem_of_getElem? (by simpa [SC.elem] using he)))
    refine ⟨a, cap, new, q1, q2, q4, by simpa [SC.len] using q3, fun i e he => ?_, fun i e j x he hx => ?_⟩
    · rw [List.getElem?_map, Option.map_eq_some_iff] at he
      obtain ⟨y, hy, rfl⟩ := he
      rw [List.length_map]; exact hes y (List.mem_of_getElem? hy)
    · rw [List.getElem?_map, Option.map_eq_some_iff] at he
      obtain ⟨y, hy, rfl⟩ := he
      rw [List.getElem?_map, Option.map_eq_some_iff] at hx
      obtain ⟨c, hc, rfl⟩ := hx
      exact (q5 i y j c (by simpa [SC.elem] using hy) hc).mono (Mem.le_refl _) (nomem_le _)
  cases d with
  | nil =>
    simp [deepOf] at h
    obtain ⟨rfl, _⟩ := h
    have hv : v = .slice none 0 0 := hd
    subst hv
    exact hst (es := []) (.empty _ _ rfl rfl) (by simp)
  | st c =>
    cases c <;> simp [deepOf] at h
    rename_i es
    obtain ⟨rfl, _⟩ := h
    obtain ⟨a, cap, new, q1, q2, q3, q4⟩ := hst (es := es) hd fun e he => by simpa using hu (e.map .st) (List.mem_map.2 ⟨e, he, rfl⟩)
    exact ⟨a, cap, new, by simpa using q1, by simpa using q2, by simpa using q3, q4⟩
  | own id =>
    simp only [deepOf] at h
    split at h
    · rename_i z' l' e
      split at h
      · rename_i hzz
        have hzz := Nat.eq_of_beq_eq_true hzz
        subst hzz
        simp at h; obtain ⟨rfl, _⟩ := h
        obtain ⟨hn, _, hown⟩ := hd
        obtain ⟨_, ⟨_, hl⟩, hrow⟩ := hR.rel id _ e
        rcases hown _ z' l'.length e rfl with ⟨b1, b2, rfl⟩ | ⟨b, cap, arr, T, b1, rfl, b3, b4⟩
        · have hl0 : l' = [] := List.eq_nil_of_length_eq_zero b2
          subst hl0
          exact hst (es := []) (.empty _ _ rfl rfl) (by simp)
        · rcases hrow with q | ⟨b', cap', arr', T', q1, q2, q3, q4, q5, q6⟩
          · rw [b1] at q; cases q.1
          rw [b1] at q1; cases q1
          rw [b3] at q3; cases q3
          have hcap : cap = cap' := Nat.eq_of_mul_eq_mul_right hz (by rw [← b4, q4])
          subst hcap
          have hle : l'.length * z' ≤ arr.size := by rw [q4]; exact Nat.mul_le_mul_right _ q5
          refine ⟨_, cap, ((List.range (l'.length * z')).map fun k => arr.getD k undef).toArray, rfl, ?_, q5, by simp, hl, fun i e j x he hx => ?_⟩
          · exact run_loadCells w _ _ _ (fun j hj => by rw [addr_add, Nat.zero_add]; exact rd_cells b3 (by omega))
          · have hj : j < z' := by rw [← hl i e he]; exact (List.getElem?_eq_some_iff.1 hx).1
            have hlt : i * z' + j < l'.length * z' := by
              have : (i + 1) * z' ≤ l'.length * z' := Nat.mul_le_mul_right _ (List.getElem?_eq_some_iff.1 he).1
              rw [Nat.add_mul] at this; omega
            rw [getD_of (v := arr.getD (i * z' + j) undef) (by simp [hlt])]
            exact q6 i e j x he hx
      · cases h
    · cases h
  | ptr _ _ => simp [deepOf] at h
  | rptr _ _ _ _ => simp [deepOf] at h
  | clo _ _ => simp [deepOf] at h
  | mp _ => simp [deepOf] at h
theorem deep_grow (hR : HeapRel F β N H w) (hf : ¬ N fid) {z : Nat} {c d : List (List DC)} {a b rest : Array Value} {e : TypeId} {newCap : Nat} {H0 : HF} {u : Hp} {R : List Nat} (hz : 0 < z) (hc : ContD F β N H w.drew z c a) (hd : ContD F β N H w.drew z d b)
    (hcap : (c ++ d).length ≤ newCap) (hrest : rest.size = (newCap - (c ++ d).length) * z) (h0 : ∀ H1, H1 = u.on H → H1 = updH H0 fid (some (.rowD z (c ++ d)))) (ht : Tr F β N H w.drew β N H0 w.drew) (hR0 : HeapRel F β N H0 w.drew)
    (hK : K (one (.own fid)) u R) : Post F β N H fid K w (.slice (some ⟨w.heap.size, 0, none⟩) (c ++ d).length newCap) (w.drew.alloc (.cells (a ++ b ++ rest) e)) := by
  obtain ⟨huni, hrep⟩ := ContD.cat (rest := rest) hc hd
  have hw0 : Below w.heap.size w w.drew := (Below.refl _ _).drew
  have td : Tr F β N H w β N H w.drew := Tr.grow hR hw0
  have hw1 : Below w.drew.heap.size w.drew (w.drew.alloc (.cells (a ++ b ++ rest) e)) := Below.alloc1 _ _
  have hbb : ∀ x, some w.heap.size = some x → w.drew.heap.size ≤ x := fun x hx => by cases hx; exact Nat.le_refl _
  have t2 := Tr.new (w' := w.drew.alloc (.cells (a ++ b ++ rest) e)) hR0 hw1 hf (some w.heap.size) hbb (.rowD z (c ++ d))
  have hsize : (a ++ b ++ rest).size = newCap * z := by
    have e1 : newCap * z = (newCap - (c ++ d).length) * z + (c ++ d).length * z := by rw [← Nat.add_mul]; congr 1; omega
    simp only [Array.size_append, hc.size, hd.size, hrest]
    rw [e1, List.length_append, Nat.add_mul]; omega
  have hat : (w.drew.alloc (.cells (a ++ b ++ rest) e)).heap[w.heap.size]? = some (.cells (a ++ b ++ rest) e) := alloc_at w.drew _
  have hRd : HeapRel F β N H w.drew := hR.grow hw0
  have hblk : BlkRel F (setB β fid (some w.heap.size)) (Fw.setN N fid) (updH H0 fid (some (.rowD z (c ++ d)))) (w.drew.alloc (.cells (a ++ b ++ rest) e)) fid (.rowD z (c ++ d)) :=
    ⟨⟨hz, huni⟩, .inr ⟨w.heap.size, newCap, _, e, by simp [setB], Fix.mine_new hR.below.size, hat, hsize, hcap, fun i e' j x he hx => (ht.trans t2).repD hRd (hrep i e' j x he hx)⟩⟩
  have hH := HeapRel.new hR0 hw1 hf (some w.heap.size) hbb (.rowD z (c ++ d)) hblk
  have hu := h0 _ rfl
  refine ⟨setB β fid (some w.heap.size), _, u, R, hK, by rw [hu]; exact (td.trans ht).trans t2, by rw [hu]; exact hH, ?_⟩
  rw [hu]
  refine repOne ⟨.inr rfl, rfl, fun blk0 z' n' hb hz' => ?_⟩
  rw [updH_same] at hb; cases hb; cases hz'
  exact .inr ⟨w.heap.size, newCap, _, e, by simp [setB], rfl, hat, hsize⟩
theorem deep_nil (hf : ¬ N fid) {z : Nat} {H0 : HF} {u : Hp} {R : List Nat} (hz : 0 < z)
    (hH0 : ∀ H1, H1 = u.on H → H1 = updH H0 fid (some (.rowD z []))) (ht : Tr F β N H w β N H0 w) (hR0 : HeapRel F β N H0 w) (hK : K (one (.own fid)) u R) : Post F β N H fid K w (.slice none 0 0) w := by
  have hw : Below w.heap.size w w := Below.refl _ _
  have t2 := Tr.new hR0 hw hf none (by simp) (.rowD z [])
  have hH := HeapRel.new hR0 hw hf none (by simp) (.rowD z []) ⟨⟨hz, by simp⟩, .inl ⟨by simp [setB], rfl⟩⟩
  have hu1 := hH0 _ rfl
  refine ⟨setB β fid none, _, u, R, hK, by rw [hu1]; exact ht.trans t2, by rw [hu1]; exact hH, ?_⟩
  rw [hu1]
  refine repOne ⟨.inr rfl, rfl, fun blk0 z' n' hb hz' => ?_⟩
  rw [updH_same] at hb; cases hb; cases hz'
  exact .inl ⟨by simp [setB], rfl, rfl⟩
theorem deep_room (hR : HeapRel F β N H w) (hf : ¬ N fid) {z id b cap : Nat} {c d : List (List DC)} {arr new : Array Value} {T : TypeId} {R : List Nat} (hb : H id = some (.rowD z c)) (hβ : β id = some b) (harr : w.heap[b]? = some (.cells arr T))
    (hsz : arr.size = cap * z) (hd : ContD F β N H w z d new) (hle : c.length + d.length ≤ cap)
    (hK : K (one (.own fid)) [(fid, some (.rowD z (c ++ d))), (id, none)] R) : Post F β N H fid K w (.slice (some ⟨b, 0, none⟩) (c ++ d).length cap) (w.setRow b (spliceA arr (c.length * z) new.toList)) := by
  obtain ⟨hn, ⟨hz, hl0⟩, hrow⟩ := hR.rel id _ hb
  rcases hrow with ⟨q, _⟩ | ⟨b', cap', arr', T', q1, q2, q3, q4, q5, q9⟩
  · rw [hβ] at q; cases q
  rw [hβ] at q1; cases q1
  rw [harr] at q3; cases q3
  have hcap : cap = cap' := Nat.eq_of_mul_eq_mul_right hz (by rw [← hsz, q4])
  subst hcap
  have hnl : new.toList.length = d.length * z := by simpa using hd.size
  have hfit : c.length * z + d.length * z ≤ arr.size := by
    rw [hsz, ← Nat.add_mul]; exact Nat.mul_le_mul_right _ hle
  have hss : (spliceA arr (c.length * z) new.toList).size = arr.size := spliceA_size (by omega)
  have hidf : id ≠ fid := fun e => hf (e ▸ hn)
  have hat : (w.setRow b (spliceA arr (c.length * z) new.toList)).heap[b]? = some (.cells (spliceA arr (c.length * z) new.toList) T) := setRow_heap w b arr _ T (0, 0) harr
  have live : ∀ {k : Nat} {b0 : Blk}, k ≠ fid → updH (updH H id none) fid (some (.rowD z (c ++ d))) k = some b0 → k ≠ id ∧ H k = some b0 := by
    intro k b0 hk h
    rw [updH_ne _ _ _ hk] at h
    by_cases hki : k = id
    · subst hki; rw [updH_same] at h; cases h
    · rw [updH_ne _ _ _ hki] at h; exact ⟨hki, h⟩
  have hT : Tr F β N H w (setB β fid (some b)) (Fw.setN N fid) (updH (updH H id none) fid (some (.rowD z (c ++ d)))) (w.setRow b (spliceA arr (c.length * z) new.toList)) := by
    refine ⟨Keep.setRow (hR.live_lt hb hβ).2 _, fun b' o v _ hs e => ⟨fun id' blk e' hb' => ?_, ?_⟩, fun _ h => .inl h, fun id' hn' => setB_ne _ _ _ fun e => hf (e ▸ hn'), fun id' blk' hn' e => ?_, fun _ _ _ b' arr0 T0 _ _ _ _ _ e => ?_, setRow_others ⟨_, _, harr⟩ _⟩
    · by_cases hk : id' = fid
      · subst hk
        rw [setB_same] at hb'; cases hb'
        exact (hs id _ hb hβ).elim
      · rw [setB_ne _ _ _ hk] at hb'
        exact hs id' blk (live hk e').2 hb'
    · by_cases hk : b' = b
      · subst hk
        exact (hs id _ hb hβ).elim
      · unfold rd at e ⊢
        rw [cell_setRow_other w b _ _ hk]; exact e
    · have hk : id' ≠ fid := fun e => hf (e ▸ hn')
      exact ⟨blk', (live hk e).2, blk'.like_refl⟩
    · by_cases hk : b' = b
      · subst hk
        rw [harr] at e; cases e
        exact ⟨_, hat, hss⟩
      · exact ⟨arr0, by rw [setRow_other w b b' _ hk]; exact e, rfl⟩
  have hc : ContD F β N H w z c (arr.extract 0 (c.length * z)) := by
    refine ⟨by simp; omega, hl0, fun i e j x he hx => ?_⟩
    have hj : j < z := by rw [← hl0 i e he]; exact (List.getElem?_eq_some_iff.1 hx).1
    have hlt : i * z + j < c.length * z := by
      have : (i + 1) * z ≤ c.length * z := Nat.mul_le_mul_right _ (List.getElem?_eq_some_iff.1 he).1
      rw [Nat.add_mul] at this; omega
    rw [getD_congr (b := arr) (l := i * z + j) (extract_get hlt)]
    exact q9 i e j x he hx
  obtain ⟨huni, hrep⟩ := ContD.cat (rest := arr.extract (c.length * z + d.length * z) arr.size) hc hd
  have hspl : spliceA arr (c.length * z) new.toList = arr.extract 0 (c.length * z) ++ new ++ arr.extract (c.length * z + d.length * z) arr.size := by
    apply Array.ext'
    have e1 : arr.size = arr.toList.length := by simp
    simp only [spliceA, Array.toList_append, Array.toList_extract, hnl, e1]
    rw [List.extract_eq_take_drop, List.extract_eq_take_drop]
    simp
    exact (List.take_of_length_le (by simp)).symm
  have hH : HeapRel F (setB β fid (some b)) (Fw.setN N fid) (updH (updH H id none) fid (some (.rowD z (c ++ d)))) (w.setRow b (spliceA arr (c.length * z) new.toList)) := by
    refine hR.step hT (fun i => i = fid) (fun i blk hi e => ?_) (fun i blk hi e => ?_) (fun i j x y y' hi hj bi bj => ?_)
    · obtain ⟨h1, h2⟩ := live hi e
      refine ⟨h2, (hR.rel i blk h2).1, fun b1 hb1 => setRow_other w b b1 _ fun hbb => h1 ?_⟩
      subst hbb
      exact hR.inj i id b1 blk _ h2 hb hb1 hβ
    · subst hi
      rw [updH_same] at e; cases e
      refine ⟨.inr rfl, ⟨hz, huni⟩, .inr ⟨b, cap, _, T, by simp [setB], q2, hat, by rw [hss, hsz], by rw [List.length_append]; exact hle, fun i e' j x he hx => ?_⟩⟩
      have := hT.repD hR (hrep i e' j x he hx)
      rwa [← hspl] at this
    · by_cases h1 : i = fid
      · by_cases h2 : j = fid
        · rw [h1, h2]
        · exfalso
          subst h1
          rw [setB_same] at bi; cases bi
          rw [setB_ne _ _ _ h2] at bj
          obtain ⟨h3, h4⟩ := live h2 hj
          exact h3 (hR.inj j id b _ _ h4 hb bj hβ)
      · by_cases h2 : j = fid
        · exfalso
          subst h2
          rw [setB_same] at bj; cases bj
          rw [setB_ne _ _ _ h1] at bi
          obtain ⟨h3, h4⟩ := live h1 hi
          exact h3 (hR.inj i id b _ _ h4 hb bi hβ)
        · rw [setB_ne _ _ _ h1] at bi
          rw [setB_ne _ _ _ h2] at bj
          exact hR.inj i j x _ _ (live h1 hi).2 (live h2 hj).2 bi bj
  refine ⟨_, _, _, R, hK, hT, hH, repOne ⟨.inr rfl, rfl, fun blk0 z' n' hb' hz' => ?_⟩⟩
  have : updH (updH H id none) fid (some (.rowD z (c ++ d))) fid = some blk0 := hb'
  rw [updH_same] at this; cases this; cases hz'
  exact .inr ⟨b, cap, _, T, by simp [setB], rfl, hat, by rw [hss, hsz]⟩
theorem appendDeep_ok (hC : C.Ok) (hG : Globs C F) (hR : HeapRel F β N H w) (hf : ¬ N fid) {T T' ty : TypeId} {i i' ie : TI} {e e' : TypeId} {x y : DC} {v0 v1 : Value} {ly : List (List DC)} {ry : List Nat} (hi : C.ti T = some i) (hcls : i.cls = .slice e) (hi' : C.ti T' = some i') (hc' : i'.cls = .slice e') (hie : C.ti e = some ie)
    (h1 : 1 ≤ ie.size) (h2 : ie.bytes ≤ 4096) (hzl : ie.zero.length = ie.size) (hx : RepD F β N H w v0 x) (hy : RepD F β N H w v1 y) (hdy : deepOf H ie.size y = some (ly, ry)) (huy : ∀ e ∈ ly, e.length = ie.size)
    (hc : (x = .nil ∧ ly.length ≤ LIM ∧ K (one (.own fid)) [(fid, some (.rowD ie.size ly))] ry) ∨ ∃ id l, x = .own id ∧ H id = some (.rowD ie.size l) ∧ l.length + ly.length ≤ LIM ∧ K (one (.own fid)) [(fid, some (.rowD ie.size (l ++ ly))), (id, none)] (id :: ry)) :
    ∃ v w', (Builtin.append_ #[T, T'] ty #[v0, v1]).run C.P w = .ok v w' ∧ Post F β N H fid K w v w' := by
  obtain ⟨tf', d', zv', hT'⟩ := hC.get hi'
  have hd' := cls_slice (hT'.cls.trans hc')
  have hu' : C.P.underlying T' = some (.slice e') := by rw [hT'.und, hd']
  obtain ⟨tf, d, zv, hT⟩ := hC.get hi
  have hd := cls_slice (hT.cls.trans hcls)
  have hu : C.P.underlying T = some (.slice e) := by rw [hT.und, hd]
  obtain ⟨ef, ed, ez, hE⟩ := hC.get hie
  have hzc : ez.cells.size = ie.size := by rw [← hzl, ← hE.zeroc]; simp
  have hw0 : Below w.heap.size w w.drew := (Below.refl _ _).drew
  have td : Tr F β N H w β N H w.drew := Tr.grow hR hw0
  have hRd : HeapRel F β N H w.drew := hR.grow hw0
  have hydd := td.repD hR hy
  have hL : LIM = 4294967296 := rfl
  rcases hc with ⟨rfl, hlim, hK⟩ | ⟨id, l, rfl, hid, hlim, hK⟩
  · have hnil : v0 = .slice none 0 0 := hx
    subst hnil
    by_cases hn0 : ly.length = 0
    · obtain ⟨a, cap, new, rfl, hnew, hcp, hcon⟩ := deep_contents hG hR hy hdy h1 huy
      have hrun := (run_append (P := C.P) (w := w) (ty := ty) (base := none) (sLen := 0) (sCap := 0) (old := #[]) hu hu' hE.info hE.size hE.bytes hE.zero h2 (show 0 + ly.length ≤ 4294967296 by omega)).1 (by omega) hnew w rfl
      rw [hn0] at hrun
      have hl0 := List.eq_nil_of_length_eq_zero hn0
      subst hl0
      exact ⟨_, w, hrun, deep_nil (u := [(fid, some (.rowD ie.size []))]) hf h1 (fun _ h => h) Tr.refl hR hK⟩
    · obtain ⟨a, cap, new, rfl, hnew, hcp, hcon⟩ := deep_contents hG hRd hydd hdy h1 huy
      obtain ⟨newCap, rest, g1, g2, hrun⟩ := (run_append (P := C.P) (w := w) (ty := ty) (base := none) (sLen := 0) (sCap := 0) (old := #[]) hu hu' hE.info hE.size hE.bytes hE.zero h2 (show 0 + ly.length ≤ 4294967296 by omega)).2 (by omega) (by simp [Builtin.firstCells]) hnew
      have e0 : 0 + ly.length = ([] ++ ly).length := by simp
      rw [e0] at hrun g1 g2
      refine ⟨_, _, hrun, ?_⟩
      exact deep_grow (u := [(fid, some (.rowD ie.size ly))]) (c := []) (d := ly) (a := #[]) (b := new) hR hf h1 ⟨by simp, by simp, by simp⟩ hcon g1 (by rw [g2, hzc]) (fun _ h => h) Tr.refl hRd hK
  · obtain ⟨hn, h1c, hown⟩ := hx
    have hxd : RepD F β N H w v0 (.own id) := ⟨hn, h1c, hown⟩
    obtain ⟨_, ⟨hz, hl0⟩, hrow⟩ := hR.rel id _ hid
    have hlu : ∀ e ∈ l, e.length = ie.size := fun e he => let ⟨k, hk⟩ := List.mem_iff_getElem?.1 he; hl0 k e hk
    have hdx : deepOf H ie.size (.own id) = some (l, [id]) := by simp [deepOf, hid]
    have hgrow : ∀ (base : Option Addr) (cap : Nat), v0 = .slice base l.length cap → ¬ l.length + ly.length ≤ cap → ∃ v w', (Builtin.append_ #[T, T'] ty #[v0, v1]).run C.P w = .ok v w' ∧ Post F β N H fid K w v w' := by
      rintro base cap rfl hgt
      obtain ⟨a, cap1, new, rfl, hnew, hcp, hcon⟩ := deep_contents hG hRd hydd hdy h1 huy
      obtain ⟨a0, cap0, old, e0, hold, hcp0, hcon0⟩ := deep_contents hG hRd (td.repD hR hxd) hdx h1 hlu
      cases e0
      obtain ⟨newCap, rest, g1, g2, hrun⟩ := (run_append (P := C.P) (w := w) (ty := ty) (base := base) (sLen := l.length) (sCap := cap) hu hu' hE.info hE.size hE.bytes hE.zero h2 (by omega)).2 hgt hold hnew
      rw [← List.length_append] at hrun g1 g2
      refine ⟨_, _, hrun, ?_⟩
      exact deep_grow (u := [(fid, some (.rowD ie.size (l ++ ly))), (id, none)]) (H0 := updH H id none) hR hf h1 hcon0 hcon g1 (by rw [g2, hzc]) (fun _ h => h) (Tr.del id) (hRd.del id) hK
    rcases hown _ ie.size l.length hid rfl with ⟨b1, b2, rfl⟩ | ⟨b, cap, arr, T0, b1, rfl, b3, b4⟩
    · by_cases hn0 : ly.length = 0
      · obtain ⟨a, cap, new, rfl, hnew, hcp, hcon⟩ := deep_contents hG hR hy hdy h1 huy
        have hrun := (run_append (P := C.P) (w := w) (ty := ty) (base := none) (sLen := 0) (sCap := 0) (old := #[]) hu hu' hE.info hE.size hE.bytes hE.zero h2 (show 0 + ly.length ≤ 4294967296 by omega)).1 (by omega) hnew w rfl
        rw [hn0] at hrun
        have e1 := List.eq_nil_of_length_eq_zero hn0
        have e2 := List.eq_nil_of_length_eq_zero b2
        subst e1 e2
        exact ⟨_, w, hrun, deep_nil (u := [(fid, some (.rowD ie.size [])), (id, none)]) (H0 := updH H id none) hf h1 (fun _ h => h) (Tr.del id) (hR.del id) hK⟩
      · exact hgrow none 0 (by rw [b2]) (by omega)
    · by_cases hroom : l.length + ly.length ≤ cap
      · obtain ⟨a, cap1, new, rfl, hnew, hcp, hcon⟩ := deep_contents hG hR hy hdy h1 huy
        have hone := hcon.one h1
        have hfit : l.length * ie.size + new.toList.length ≤ arr.size := by
          have : new.toList.length = ly.length * ie.size := by simpa using hcon.size
          rw [this, b4, ← Nat.add_mul]; exact Nat.mul_le_mul_right _ hroom
        have hsto := run_storeCells_at C.P b (l.length * ie.size) T0 new.toList 0 arr w b3 (by simpa using hfit) hone
        have hrun := (run_append (P := C.P) (w := w) (ty := ty) (base := some ⟨b, 0, none⟩) (sLen := l.length) (sCap := cap) (old := #[]) hu hu' hE.info hE.size hE.bytes hE.zero h2 (by omega)).1 hroom hnew (w.setRow b (spliceA arr (l.length * ie.size) new.toList)) (by
          simp only [addr_add, Nat.zero_add]
          simpa [spliceA] using hsto)
        rw [← List.length_append] at hrun
        exact ⟨_, _, hrun, deep_room hR hf hid b1 b3 b4 hcon hroom hK⟩
      · exact hgrow _ cap rfl hroom
end
end Go.Fw
namespace Go.Fw
open Go.RowKit (Below)
open Classical
section
variable {C : Ctx} {F : Fix} {β : Nat → Option Nat} {N : Nat → Prop} {H : HF} {fid : Nat} {K : OpK} {w w' : World} {P : Program}
theorem cls_map {d : TypeDesc} {k e : TypeId} (h : clsOf d = .map k e) : d = .map k e := by cases d <;> simp [clsOf] at h; obtain ⟨rfl, rfl⟩ := h; rfl
theorem mzGet_mem : ∀ {l : List (Nat × Bool)} {t : Nat} {b : Bool}, mzGet l t = some b → (t, b) ∈ l
  | [], _, _, h => by simp [mzGet] at h
  | (j, b) :: l, t, i, h => by
    simp only [mzGet] at h
    split at h
    · rename_i e
      simp at h
      subst h
      rw [Nat.eq_of_beq_eq_true e]
      exact List.mem_cons_self
    · exact List.mem_cons_of_mem _ (mzGet_mem h)
theorem zeroS_ok (hC : C.Ok) {e : TypeId} {x : SV} (h : zeroS C e = some x) : ∃ f v, C.P.info? e = some f ∧ f.zero = some v ∧ ∀ mv mr : Mem, RepB mv mr v x := by
  unfold zeroS at h
  split at h
  · rename_i ie ag hie hmz
    split at h
    · rename_i cs hzs
      simp at h; subst h
      obtain ⟨f, d, v, hE⟩ := hC.get hie
      have hm := mzGet_mem hmz
      obtain ⟨k, hk⟩ := List.mem_iff_getElem?.1 hm
      have hty := congrArg (·[k]?) hC.mz
      simp only [List.getElem?_map, hk, Option.map_some, Option.some.injEq] at hty
      have hag : (ag = true → ∃ arr, v = .agg arr) ∧ (ag = false → v.oneCell' = true) := by
        simp only [zeroAg, hE.info, hE.zero] at hty
        split at hty
        · rename_i arr hv
          obtain rfl := Option.some.inj hv; cases hty
          exact ⟨fun _ => ⟨_, rfl⟩, fun h => by cases h⟩
        · rename_i v' _ hv
          obtain rfl := Option.some.inj hv
          split at hty
          · rename_i h1
            cases hty
            exact ⟨fun h => (by cases h), fun _ => h1⟩
          · cases hty
        · cases hty
      rw [← hE.zeroc] at hzs
      obtain ⟨b1, _, b3⟩ := zerosS_ok hzs
      refine ⟨f, v, hE.info, hE.zero, fun mv mr => ?_⟩
      unfold RepB
      cases ag
      · have h1 := hag.2 rfl
        rw [one_cells h1] at b1 b3
        obtain ⟨c, rfl⟩ : ∃ c, cs = [c] := List.length_eq_one_iff.1 (by simpa using b1)
        obtain ⟨v', q1, q2⟩ := b3 mv mr 0 c rfl
        simp at q1; subst q1
        exact ⟨c, rfl, q2⟩
      · obtain ⟨arr, rfl⟩ := hag.1 rfl
        refine ⟨arr, rfl, by simpa [Value.cells] using b1.symm, fun k c hk => ?_⟩
        obtain ⟨v', q1, q2⟩ := b3 mv mr k c hk
        have : arr.getD k undef = v' := by
          have q1 : arr[k]? = some v' := by simpa [Value.cells] using q1
          exact getD_of q1
        rw [this]; exact q2
    · cases h
  · cases h
def Entries (mv mr : Mem) (es : List (ByteArray × SV)) (l : List MapEntry) : Prop := l.length = es.length ∧ ∀ (i : Nat) (k : ByteArray) (x : SV) (e : MapEntry), es[i]? = some (k, x) → l[i]? = some e → e.key = .string k ∧ RepB mv mr e.val x
theorem find_ok {mv mr : Mem} {a : ByteArray} : ∀ {es : List (ByteArray × SV)} {l : List MapEntry} (i0 : Nat), Entries mv mr es l →
    (findD es a = none ∧ Instr.findNow .string (.string a) l i0 = some none ∧ ∀ (v : Value) (x : SV) (n : Nat), RepB mv mr v x → Entries mv mr (putD es a x) (l ++ [⟨.string a, v, n⟩])) ∨
      ∃ x j e, findD es a = some x ∧ l[j]? = some e ∧ Instr.findNow .string (.string a) l i0 = some (some (i0 + j, e.val)) ∧ e.key = .string a ∧ RepB mv mr e.val x ∧ ∀ (v : Value) (x : SV), RepB mv mr v x → Entries mv mr (putD es a x) (l.set j { e with val := v })
  | [], l, i0, h => by
    have hl : l = [] := List.eq_nil_of_length_eq_zero (by simpa using h.1)
    subst hl
    refine .inl ⟨rfl, rfl, fun v x n hv => ⟨rfl, fun i k y e h1 h2 => ?_⟩⟩
    cases i with
    | zero => simp [putD] at h1 h2; obtain ⟨rfl, rfl⟩ := h1; subst h2; exact ⟨rfl, hv⟩
    | succ i => simp at h2
  | (k, x) :: es, [], i0, h => by have := h.1; simp at this
  | (k, x) :: es, e :: l, i0, h => by
    obtain ⟨h0, h1⟩ := h
    obtain ⟨hk, hv⟩ := h1 0 k x e rfl rfl
    have htail : Entries mv mr es l := ⟨by simpa using h0, fun i k' x' e' q1 q2 => h1 (i + 1) k' x' e' (by simpa using q1) (by simpa using q2)⟩
    have hsame : Instr.sameNow .string (.string a) e.key = some (a == k) := by rw [hk]; rfl
    have hcons : ∀ {es' : List (ByteArray × SV)} {l' : List MapEntry} {y : SV} {e' : MapEntry}, e'.key = .string k → RepB mv mr e'.val y → Entries mv mr es' l' → Entries mv mr ((k, y) :: es') (e' :: l') := by
      intro es' l' y e' g1 g2 g3
      refine ⟨by simp [g3.1], fun i k' x' e2 q1 q2 => ?_⟩
      cases i with
      | zero => simp at q1 q2; obtain ⟨rfl, rfl⟩ := q1; subst q2; exact ⟨g1, g2⟩
      | succ i => exact g3.2 i k' x' e2 (by simpa using q1) (by simpa using q2)
    cases hak : (a == k)
    · rw [hak] at hsame
      rcases find_ok (a := a) (i0 + 1) htail with ⟨q1, q2, q3⟩ | ⟨y, j, e', q1, q2, q3, q4, q5, q6⟩
      · refine .inl ⟨by simp [findD, hak, q1], by simp [Instr.findNow, hsame, q2], fun v x' n hv' => ?_⟩
        simp only [putD, hak, List.cons_append]
        exact hcons hk hv (q3 v x' n hv')
      · refine .inr ⟨y, j + 1, e', by simp [findD, hak, q1], by simpa using q2, by simp [Instr.findNow, hsame, q3]; omega, q4, q5, fun v x' hv' => ?_⟩
        simp only [putD, hak, List.set_cons_succ]
        exact hcons hk hv (q6 v x' hv')
    · rw [hak] at hsame
      have e0 : a = k := (Go.MapKept.bytes_beq a k).1 hak
      subst e0
      refine .inr ⟨x, 0, e, by simp [findD, hak], rfl, by simp [Instr.findNow, hsame], hk, hv, fun v x' hv' => ?_⟩
      simp only [putD, hak, List.set_cons_zero]
      exact hcons (by simpa using hk) hv' htail
theorem strKey_und (hC : C.Ok) {k : TypeId} (h : strKey C k = true) : C.P.underlying k = some .string := by
  unfold strKey at h
  split at h
  · rename_i i hi
    obtain ⟨tf, d, z, hT⟩ := hC.get hi
    split at h
    · rename_i hc
      rw [hT.und, cls_str (hT.cls.trans hc)]
    · cases h
  · cases h
theorem map_entries (hR : HeapRel F β N H w) {v : Value} {id : Nat} {es : List (ByteArray × SV)} (hv : RepD F β N H w v (.mp id)) (he : H id = some (.map es)) : ∃ b arr ck, β id = some b ∧ v = .map (some b) ∧ F.mine b ∧ w.heap[b]? = some (.map arr ck) ∧ Entries (MV F β H w) (MR F β H w) es arr.toList := by
  obtain ⟨_, b, h1, rfl⟩ := hv
  obtain ⟨_, b', arr, ck, q1, q2, q3, q4, q5⟩ := hR.rel id _ he
  rw [h1] at q1; cases q1
  exact ⟨b, arr, ck, h1, rfl, q2, q3, by simpa using q4, fun i k x e h2 h3 => q5 i k x e h2 (by simpa using h3)⟩
theorem lookup_ok (hC : C.Ok) (hR : HeapRel F β N H w) {T kt et : TypeId} {i : TI} {v : Value} {id : Nat} {a : ByteArray} {es : List (ByteArray × SV)} {z : SV} {ok : Bool} (hi : C.ti T = some i) (hcl : i.cls = .map kt et) (hs : strKey C kt = true) (hz : zeroS C et = some z)
    (hv : RepD F β N H w v (.mp id)) (he : H id = some (.map es)) : ∃ r, (Instr.lookup T v (.string a) ok).run C.P w = .ok r w ∧ RepDV F β N H w r (fromMap (findD es a) z ok) := by
  obtain ⟨tf, d, zt, hT⟩ := hC.get hi
  have hd := cls_map (hT.cls.trans hcl)
  have hund : C.P.underlying T = some (.map kt et) := by rw [hT.und, hd]
  have hk := strKey_und hC hs
  obtain ⟨b, arr, ck, h1, rfl, h2, h3, h4⟩ := map_entries hR hv he
  obtain ⟨f, zv, f1, f2, f3⟩ := zeroS_ok hC hz
  have hck := fun em => Go.MapKept.run_checkKey (P := C.P) (w := w) (k := .string a) hk trivial em 9999
  have hzr : (zeroValue et).run C.P w = .ok zv w := by simp [zeroValue, typeInfo, f1, f2]
  have hfin : ∀ (r : Value) (x : SV) (bb : Bool), RepB (MV F β H w) (MR F β H w) r x → orZ (findD es a) z = x → isS (findD es a) = bb →
      RepDV F β N H w (if ok then .tuple #[r, .bool bb] else r) (fromMap (findD es a) z ok) := by
    intro r x bb hr e1 e2
    unfold fromMap
    rw [e1, e2]
    cases ok
    · exact RepB.dyn hr
    · refine ⟨#[r, .bool bb], rfl, rfl, fun k y hk => ?_⟩
      match k with
      | 0 => simp at hk; subst hk; exact RepB.dyn hr
      | 1 => simp at hk; subst hk; exact ⟨_, rfl, .lit rfl⟩
      | k + 2 => simp at hk
  rcases find_ok (a := a) 0 h4 with ⟨q1, q2, _⟩ | ⟨x, j, e, q1, q2, q3, q4, q5, _⟩
  · refine ⟨if ok then .tuple #[zv, .bool false] else zv, ?_, hfin zv z false (f3 _ _) (by rw [q1]; rfl) (by rw [q1]; rfl)⟩
    simp only [Instr.lookup, Sem.run_bind, run_underlying hund, Result.andThen_ok, Go.MapKept.run_getObj_map h3, Sem.run_pure, hck, Go.MapKept.run_findKey hk q2, hzr]
  · refine ⟨if ok then .tuple #[e.val, .bool true] else e.val, ?_, hfin e.val x true q5 (by rw [q1]; rfl) (by rw [q1]; rfl)⟩
    simp only [Instr.lookup, Sem.run_bind, run_underlying hund, Result.andThen_ok, Go.MapKept.run_getObj_map h3, Sem.run_pure, hck, Go.MapKept.run_findKey hk q3]
theorem staticL_get : ∀ {cs : List DC} {l : List SC}, staticL cs = some l → l.length = cs.length ∧ ∀ (k : Nat) (c : SC), l[k]? = some c → cs[k]? = some (.st c)
  | [], l, h => by simp [staticL] at h; subst h; simp
  | d :: cs, l, h => by
    cases d <;> simp only [staticL] at h <;> try cases h
    split at h
    · rename_i l' hl
      simp at h; subst h
      obtain ⟨h1, h2⟩ := staticL_get hl
      refine ⟨by simp [h1], fun k c hk => ?_⟩
      cases k with
      | zero => simp at hk; subst hk; rfl
      | succ k => simpa using h2 k c (by simpa using hk)
    · cases h
theorem static_repB {v : Value} {ag : Bool} {cs : List DC} {l : List SC} (h : RepDX F β N H w v (ag, cs)) (hs : staticL cs = some l) : RepB (MV F β H w) (MR F β H w) v (ag, l) := by
  obtain ⟨h1, h2⟩ := staticL_get hs
  unfold RepDX at h
  unfold RepB
  cases ag
  · obtain ⟨c, e, hc⟩ := h
    simp at e; subst e
    obtain ⟨x, rfl⟩ : ∃ x, l = [x] := List.length_eq_one_iff.1 (by simpa using h1)
    have := h2 0 x rfl
    simp at this; subst this
    exact ⟨x, rfl, hc⟩
  · obtain ⟨arr, e1, e2, e3⟩ := h
    exact ⟨arr, e1, by rw [e2]; exact h1.symm, fun k c hk => e3 k _ (h2 k c hk)⟩
theorem set_map {id b : Nat} {es es' : List (ByteArray × SV)} {arr arr' : Array MapEntry} {ck ck' : Nat} (hR : HeapRel F β N H w) (hid : H id = some (.map es)) (hβ : β id = some b) (hm : F.mine b) (hb : w.heap[b]? = some (.map arr ck)) (hen : Entries (MV F β H w) (MR F β H w) es' arr'.toList) :
    Tr F β N H w β N (updH H id (some (.map es'))) { w with heap := w.heap.setIfInBounds b (.map arr' ck') } ∧ HeapRel F β N (updH H id (some (.map es'))) { w with heap := w.heap.setIfInBounds b (.map arr' ck') } := by
  obtain ⟨hat, hne⟩ := Go.MapKept.heap_set (o' := .map arr' ck') hb
  have hrd : rd { w with heap := w.heap.setIfInBounds b (.map arr' ck') } = rd w := by
    funext b' x
    by_cases h : b' = b
    · subst h
      unfold rd World.cell?
      simp only [hat, hb]
    · exact World.cell?_of_block (w := w) (a := ⟨b', x, none⟩) (hne b' h)
  have live : ∀ {k : Nat} {b0 : Blk}, k ≠ id → updH H id (some (.map es')) k = some b0 → H k = some b0 := fun hk h => by rwa [updH_ne _ _ _ hk] at h
  have tr : Tr F β N H w β N (updH H id (some (.map es'))) { w with heap := w.heap.setIfInBounds b (.map arr' ck') } := by
    refine ⟨⟨rfl, rfl, rfl, by simp, fun k hk hn => hne k fun e => hn (e ▸ hm)⟩, fun b' o v _ hs e => ⟨fun id' blk e' hb' => ?_, by rw [hrd]; exact e⟩, fun _ h => h, fun _ _ => rfl, fun id' blk' hn e => ?_, fun id' blk' zn b' arr0 T _ e hz hb' _ he => ?_, fun k x e => ?_⟩
    · by_cases hk : id' = id
      · subst hk
        exact (hs id' _ hid hb').elim
      · exact hs id' blk (live hk e') hb'
    · by_cases hk : id' = id
      · subst hk; rw [updH_same] at e; cases e; exact ⟨_, hid, trivial⟩
      · exact ⟨blk', live hk e, blk'.like_refl⟩
    · by_cases hk : b' = b
      · subst hk; rw [hb] at he; cases he
      · exact ⟨arr0, by rw [← he]; exact hne b' hk, rfl⟩
    · by_cases hk : k = b
      · subst hk; rw [hb] at e; cases e
      · rw [← e]; exact hne k hk
  refine ⟨tr, hR.step tr (fun i => i = id) (fun i blk hi e => ⟨live hi e, (hR.rel i blk (live hi e)).1, fun b' hb' => hne b' fun h => hi ?_⟩) (fun i blk hi e => ?_) (fun i j x y y' hi hj bi bj => ?_)⟩
  · subst h
    exact hR.inj i id b' blk _ (live hi e) hid hb' hβ
  · subst hi
    rw [updH_same] at e; cases e
    refine ⟨(hR.rel i _ hid).1, b, arr', ck', hβ, hm, hat, by simpa using hen.1, fun j k x e h1 h2 => ?_⟩
    obtain ⟨a1, a2⟩ := hen.2 j k x e h1 (by simpa using h2)
    exact ⟨a1, a2.mono tr.mv tr.mr⟩
  · have f : ∀ {i : Nat} {y : Blk}, updH H id (some (.map es')) i = some y → ∃ y0, H i = some y0 := by
      intro i y h
      by_cases hk : i = id
      · subst hk; exact ⟨_, hid⟩
      · exact ⟨_, live hk h⟩
    obtain ⟨y0, h0⟩ := f hi
    obtain ⟨y1, h1⟩ := f hj
    exact hR.inj i j x y0 y1 h0 h1 bi bj
theorem update_ok (hC : C.Ok) (hR : HeapRel F β N H w) {T kt et : TypeId} {i : TI} {v vv : Value} {id : Nat} {a : ByteArray} {es : List (ByteArray × SV)} {ag : Bool} {cs : List DC} {l : List SC} (hi : C.ti T = some i) (hcl : i.cls = .map kt et) (hs : strKey C kt = true)
    (hv : RepD F β N H w v (.mp id)) (he : H id = some (.map es)) (hvv : RepDX F β N H w vv (ag, cs)) (hl : staticL cs = some l) :
    ∃ w', (Instr.mapUpdate T v (.string a) vv).run C.P w = .ok () w' ∧ Tr F β N H w β N (updH H id (some (.map (putD es a (ag, l))))) w' ∧ HeapRel F β N (updH H id (some (.map (putD es a (ag, l))))) w' := by
  obtain ⟨tf, d, zt, hT⟩ := hC.get hi
  have hd := cls_map (hT.cls.trans hcl)
  have hund : C.P.underlying T = some (.map kt et) := by rw [hT.und, hd]
  have hk := strKey_und hC hs
  obtain ⟨b, arr, ck, h1, rfl, h2, h3, h4⟩ := map_entries hR hv he
  have hck := Go.MapKept.run_checkKey (P := C.P) (w := w) (k := .string a) hk trivial false 9999
  have hrep := static_repB hvv hl
  rcases find_ok (a := a) 0 h4 with ⟨q1, q2, q3⟩ | ⟨x, j, e, q1, q2, q3, q4, q5, q6⟩
  · obtain ⟨t1, t2⟩ := set_map (arr' := arr.push ⟨.string a, vv, ck⟩) (ck' := ck + 1) hR he h1 h2 h3 (by simpa using q3 vv _ ck hrep)
    refine ⟨_, ?_, t1, t2⟩
    simp only [Instr.mapUpdate, Sem.run_bind, run_underlying hund, Result.andThen_ok, Go.MapKept.run_getObj_map h3, hck, Go.MapKept.run_findKey hk q2, Go.MapKept.run_setObj_map _ h3]
  · have hset : (arr.modify j fun e => { e with key := .string a, val := vv }).toList = arr.toList.set j { e with val := vv } := by
      have hlt : j < arr.size := by
        have := (List.getElem?_eq_some_iff.1 q2).1
        simpa using this
      apply List.ext_getElem?
      intro k
      rw [Array.getElem?_toList, Array.getElem?_modify, List.getElem?_set]
      by_cases hjk : j = k
      · subst hjk
        have hq : arr[j]? = some e := by simpa using q2
        have hg : arr[j] = e := (Array.getElem?_eq_some_iff.1 hq).2
        simp [hlt, q4, hg]
      · simp [hjk]
    obtain ⟨t1, t2⟩ := set_map (arr' := arr.modify j fun e => { e with key := .string a, val := vv }) (ck' := ck) hR he h1 h2 h3 (by rw [hset]; exact q6 vv _ hrep)
    refine ⟨_, ?_, t1, t2⟩
    have hq : arr[j]? = some e := by simpa using q2
    have hq' : arr[0 + j]? = some e := by rw [Nat.zero_add]; exact hq
    have hst : (Instr.keyThatStays (.string a) (.string a)).run C.P w = .ok (.string a) w := by
      have : Instr.sameBits 10000 (.string a) (.string a) = true := by
        show (a == a) = true
        exact (Go.MapKept.bytes_beq a a).2 rfl
      simp only [Instr.keyThatStays, this, if_true, Sem.run_pure]
    simp only [Instr.mapUpdate, Sem.run_bind, run_underlying hund, Result.andThen_ok, Go.MapKept.run_getObj_map h3, hck, Go.MapKept.run_findKey hk q3, hq', Option.map_some, Option.getD_some, q4, hst, Go.MapKept.run_setObj_map _ h3]
    simp only [Nat.zero_add]
theorem makeMap_ok (hR : HeapRel F β N H w) (hf : ¬ N fid) {T : TypeId} :
    ∃ v w', (Instr.makeMap T none).run C.P w = .ok v w' ∧ Post F β N H fid (fun r u R => r = one (.mp fid) ∧ u = [(fid, some (.map []))] ∧ R = []) w v w' := by
  refine ⟨.map (some w.heap.size), w.alloc (.map #[] 0), by simp [Instr.makeMap, newObj, Sem.run], ?_⟩
  refine Post.new (u := []) (b := some w.heap.size) hR Tr.refl hf (Below.alloc1 w _) (by simp) ⟨rfl, rfl, rfl⟩ (fun H1 hH1 t1 t2 => ?_) (fun H1 hH1 => repOne ⟨.inr rfl, w.heap.size, by simp [setB], rfl⟩)
  exact ⟨w.heap.size, #[], 0, by simp [setB], Fix.mine_new hR.below.size, alloc_at w _, rfl, by simp⟩
theorem isByte_und (hC : C.Ok) {e : TypeId} (h : isByte C e = true) : C.P.underlying e = some (.int .u8) := by
  unfold isByte at h
  split at h
  · rename_i i hi
    obtain ⟨tf, d, z, hT⟩ := hC.get hi
    split at h
    · rename_i hc
      rw [hT.und, cls_int (hT.cls.trans hc)]
    · cases h
  · cases h
theorem toBytes_ok (hC : C.Ok) (hR : HeapRel F β N H w) {src dst e : TypeId} {i j : TI} {s : ByteArray} (hi : C.ti src = some i) (hj : C.ti dst = some j) (h1 : i.cls = .str) (h2 : j.cls = .slice e) (h3 : isByte C e = true) :
    ∃ v w', (convert src dst (.string s)).run C.P w = .ok v w' ∧ Post F β N H fid (fun r u R => r = one (.st (.view (bytesV s))) ∧ u = [] ∧ R = []) w v w' := by
  obtain ⟨tf, d, z, hT⟩ := hC.get hi
  obtain ⟨tf', d', z', hT'⟩ := hC.get hj
  have hu1 : C.P.underlying src = some .string := by rw [hT.und, cls_str (hT.cls.trans h1)]
  have hu2 : C.P.underlying dst = some (.slice e) := by rw [hT'.und, cls_slice (hT'.cls.trans h2)]
  refine ⟨_, _, run_bytes_of_string w src dst e s hu1 hu2 (isByte_und hC h3), ?_⟩
  generalize hcap : grownCap w s.size 0 e = cap
  generalize hfr : ((bytesRow s cap).size, (bytesRow s cap).size + 1) = fr
  have hB : Below w.heap.size w (w.drew.alloc (.cells (bytesRow s cap) e fr)) := (Below.refl _ _).drew.trans (Below.alloc1 w.drew _)
  have hR2 := hR.grow hB
  have t2 := Tr.grow hR hB
  have hat : (w.drew.alloc (.cells (bytesRow s cap) e fr)).heap[w.heap.size]? = some (.cells (bytesRow s cap) e fr) := alloc_at w.drew _
  have hlen : (bytesV s).length = s.size := by
    show (s.data.toList.map _).length = s.data.size
    rw [List.length_map, Array.length_toList]
  have hcapl : s.size ≤ cap := by
    rw [← hcap]; unfold grownCap
    simp only [Question.cut]; omega
  refine ⟨β, _, _, _, ⟨rfl, rfl, rfl⟩, t2.setN, hR2.setN, RepDV.setN (repOne ?_)⟩
  show Rep _ _ _ _
  by_cases h0 : s.size = 0
  · rw [h0]
    exact .empty _ _ rfl (by rw [SC.len, hlen, h0])
  · have e1 : s.size = (SC.view (bytesV s)).len := by rw [SC.len, hlen]
    rw [e1]
    refine .view w.heap.size 0 cap 1 (fun k => (bytesRow s cap).getD k undef) rfl (by omega) (by omega) (by omega) (fun i e he => ?_) (fun k hk => ?_) (fun i e j x he hx => ?_)
    · simp only [SC.elem, bytesV, List.getElem?_map, Option.map_eq_some_iff] at he
      obtain ⟨b, _, rfl⟩ := he; rfl
    · rw [Nat.zero_add, MV_base (Fix.mine_new hR.below.size) (fun id blk e' hb => by have := (hR.live_lt e' hb).1; omega)]
      have hk' : k < (bytesRow s cap).size := by
        simp only [bytesRow, Array.size_append, Array.size_map, Array.size_replicate]
        have : s.data.size = s.size := rfl
        omega
      unfold rd World.cell?
      simp only [hat]
      simp [Array.getD_eq_getD_getElem?, hk']
    · simp only [SC.elem, bytesV, List.getElem?_map, Option.map_eq_some_iff] at he
      obtain ⟨b, hb, rfl⟩ := he
      cases j with
      | succ j => simp at hx
      | zero =>
        simp at hx; subst hx
        have hb' : s.data[i]? = some b := by simpa using hb
        have hlt : i < s.data.size := (Array.getElem?_eq_some_iff.1 hb').1
        have : (bytesRow s cap).getD (i * 1 + 0) undef = .int .u8 (b.toNat : Nat) := by
          refine getD_of ?_
          simp only [bytesRow, Nat.mul_one, Nat.add_zero]
          rw [Array.getElem?_append_left (by simpa using hlt)]
          simp [hb']
        rw [this]
        exact .lit rfl
theorem isPtr_ok {v : Value} {d : DC} (h : RepD F β N H w v d) (hp : isPtr d = some true) : ∃ a, v = .pointer (some a) := by
  unfold isPtr at hp
  split at hp
  · obtain ⟨_, b, _, rfl⟩ := h; exact ⟨_, rfl⟩
  · obtain ⟨_, b, _, rfl⟩ := h; exact ⟨_, rfl⟩
  · cases h with
    | empty a cap hv => simp [SC.isView] at hv
    | view _ _ _ _ _ hv => simp [SC.isView] at hv
    | ref b o f hc hr => exact ⟨_, rfl⟩
  · cases hp
  · cases hp
theorem arrPtr_ok (hC : C.Ok) (hG : Globs C F) (hR : HeapRel F β N H w) {T e : TypeId} {i : TI} {n : Nat} {l : List Int} {v : Value} (hi : C.ti T = some i) (hcl : i.cls = .array n e) (hv : RepD F β N H w v (.st (.ints l))) (h1 : 1 ≤ n) (h2 : n ≤ l.length) :
    ∃ u, (Instr.arrayAt T v).run C.P w = .ok u w ∧ RepD F β N H w u (.st (.ref ((l.take n).map fun k => .lit (.int .i64 k)))) := by
  obtain ⟨tf, d, z, hT⟩ := hC.get hi
  have hd : d = .array n e := cls_array (hT.cls.trans hcl)
  have hv : Rep (MV F β H w) (MR F β H w) v (.ints l) := hv
  cases hv with
  | empty a cap hv h0 => exfalso; have h0 : l.length = 0 := h0; omega
  | view b o cap z f hv hpos hz hcap hl hc hr =>
    have hpos : 0 < l.length := hpos
    obtain ⟨e0, he0⟩ := SC.elem_of_lt (c := .ints l) hpos
    have hz1 : z = 1 := by
      rw [← hl 0 e0 he0]
      simp [SC.elem] at he0
      obtain ⟨a, _, rfl⟩ := he0
      rfl
    subst hz1
    refine ⟨.pointer (some ⟨b, o, none⟩), ?_, ?_⟩
    · have : ¬ (SC.ints l).len < n := by simp only [SC.len]; omega
      simp [Instr.arrayAt, hT.run_und, hd, this]
    · refine .ref b o f (fun k hk => MV_le_MR hG hR _ _ _ (hc k (by simp [SC.len] at hk ⊢; omega))) fun k x hx => ?_
      simp only [List.getElem?_map, Option.map_eq_some_iff, List.getElem?_take] at hx
      obtain ⟨m, hm, rfl⟩ := hx
      split at hm
      · have := hr k [.lit (.int .i64 m)] 0 (.lit (.int .i64 m)) (by simp [SC.elem, hm]) rfl
        simp only [Nat.mul_one, Nat.add_zero] at this
        obtain ⟨e1, e2⟩ := RepD.lit_inv (F := F) (β := β) (N := N) (H := H) (w := w) (Rep.mono (Mem.le_refl _) (nomem_le _) this)
        rw [e1]; exact .lit e2
      · cases hm
theorem opX_sound (hC : C.Ok) (hG : Globs C F) (hR : HeapRel F β N H w) (hf : ¬ N fid) {E : EF} {a : Act} (hE : EnvRel F β N H w E a) {o : Oper} {Q : Exit → Act → World → Prop} (h : opX C fid o (C.ev E) H K) :
    o.wp C.P a w (fun a' w' => ∃ v, a' = a.put o.dst v ∧ Post F β N H fid K w v w') Q := by
  have ev : ∀ {x : Operand} {d : DV}, C.ev E x = some d → RepDV F β N H w (a.eval x) d := fun h => ev_ok hG hR hE h
  unfold opX at h
  split at h
  rotate_left
  · exact h.elim
  rename_i P r u R hx
  obtain ⟨hP, hK⟩ := h
  have conv : ∀ {v : Value} {w' : World}, Post F β N H fid (fun r' u' R' => r' = r ∧ u' = u ∧ R' = R) w v w' → Post F β N H fid K w v w' := by
    rintro v w' ⟨β', r', u', R', ⟨rfl, rfl, rfl⟩, q1, q2, q3⟩
    exact ⟨β', _, _, _, hK, q1, q2, q3⟩
  unfold effX at hx
  cases ho : o.op with
  | buildSlice T len parts =>
    rw [ho] at hx
    simp only at hx
    split at hx
    rotate_left
    · cases hx
    rename_i i hi
    split at hx
    rotate_left
    · cases hx
    rename_i e hcls
    split at hx
    rotate_left
    · cases hx
    rename_i ie hie hdp
    split at hx
    rotate_left
    · cases hx
    rename_i hb
    obtain ⟨hb, h3⟩ := ble_and hb
    obtain ⟨h1, h2⟩ := ble_and hb
    split at hx
    rotate_left
    · cases hx
    rename_i l hl
    simp only [Option.some.injEq, Prod.mk.injEq] at hx
    obtain ⟨rfl, rfl, rfl, rfl⟩ := hx
    obtain ⟨v, w', hr, hp⟩ := buildDeep_ok hC hG hR hf hE hi hcls hie (Nat.le_of_ble_eq_true h1) (Nat.le_of_ble_eq_true h2) (Nat.eq_of_beq_eq_true h3) hl
    exact wp_value (by simp only [execOp, ho, Sem.run_bind, hr, Result.andThen_ok]; rfl) ⟨_, rfl, conv hp⟩
  | call c =>
    rw [ho] at hx
    simp only at hx
    split at hx
    rotate_left
    · cases hx
    rename_i t t' x y hc hts hargs
    split at hx
    rotate_left
    · cases hx
    rename_i i i' hi hi'
    split at hx
    rotate_left
    · cases hx
    rename_i e e' hcl hcl'
    split at hx
    rotate_left
    · cases hx
    rename_i ie hie hdp
    split at hx
    rotate_left
    · cases hx
    rename_i hb
    obtain ⟨hb, h3⟩ := ble_and hb
    obtain ⟨h1, h2⟩ := ble_and hb
    split at hx
    rotate_left
    · cases hx
    rename_i ly ry hdy
    have h0 : c.args.size = 2 := by have := congrArg List.length hargs; simpa using this
    obtain ⟨x0, x1, hx0⟩ : ∃ x0 x1, c.args = #[x0, x1] := by
      have : c.args.toList.length = 2 := by simpa using h0
      match hl : c.args.toList, this with
      | [x0, x1], _ => exact ⟨x0, x1, by apply Array.ext'; exact hl⟩
    have hev : C.ev E x0 = some (.val (false, [x])) ∧ C.ev E x1 = some (.val (false, [y])) := by rw [hx0] at hargs; simpa using hargs
    have hat : c.argTypes = #[t, t'] := by apply Array.ext'; simpa using hts
    have key : ∀ {v : Value} {w' : World}, (Builtin.append_ #[t, t'] o.type #[a.eval x0, a.eval x1]).run C.P w = .ok v w' → Post F β N H fid K w v w' →
        o.wp C.P a w (fun a' w' => ∃ v, a' = a.put o.dst v ∧ Post F β N H fid K w v w') Q := by
      intro v w' hr hp
      refine wp_value ?_ ⟨v, rfl, hp⟩
      simp only [execOp, ho, resolve, hc, Sem.run_bind, Sem.run_pure, Result.andThen_ok, invoke]
      simp only [builtin, hat, hx0, List.map_toArray, List.map_cons, List.map_nil, Sem.run_bind, hr, Result.andThen_ok]
      rfl
    split at hx
    · simp only [Option.some.injEq, Prod.mk.injEq] at hx
      obtain ⟨rfl, rfl, rfl, rfl⟩ := hx
      obtain ⟨v, w', hr, hp⟩ := appendDeep_ok (K := K) (ty := o.type) hC hG hR hf hi hcl hi' hcl' hie (Nat.le_of_ble_eq_true h1) (Nat.le_of_ble_eq_true h2) (Nat.eq_of_beq_eq_true h3) (RepDX.one_inv (ev hev.1)) (RepDX.one_inv (ev hev.2)) hdy hP.1 (.inl ⟨rfl, hP.2, hK⟩)
      exact key hr hp
    · rename_i id
      split at hx
      · rename_i z l hid
        split at hx
        · rename_i hz
          have hz := Nat.eq_of_beq_eq_true hz
          subst hz
          simp only [Option.some.injEq, Prod.mk.injEq] at hx
          obtain ⟨rfl, rfl, rfl, rfl⟩ := hx
          obtain ⟨v, w', hr, hp⟩ := appendDeep_ok (K := K) (ty := o.type) hC hG hR hf hi hcl hi' hcl' hie (Nat.le_of_ble_eq_true h1) (Nat.le_of_ble_eq_true h2) (Nat.eq_of_beq_eq_true h3) (RepDX.one_inv (ev hev.1)) (RepDX.one_inv (ev hev.2)) hdy hP.1 (.inr ⟨id, l, rfl, hid, hP.2, hK⟩)
          exact key hr hp
        · cases hx
      · cases hx
    · cases hx
  | makeMap T m =>
    rw [ho] at hx
    cases m with
    | some y => cases hx
    | none =>
      simp only at hx
      split at hx
      rotate_left
      · cases hx
      split at hx
      rotate_left
      · cases hx
      simp only [Option.some.injEq, Prod.mk.injEq] at hx
      obtain ⟨rfl, rfl, rfl, rfl⟩ := hx
      obtain ⟨v, w', hr, hp⟩ := makeMap_ok (C := C) (T := T) hR hf
      exact wp_value (by simp only [execOp, ho, Sem.run_bind, Option.map_none, hr, Result.andThen_ok]; rfl) ⟨_, rfl, conv hp⟩
  | insert T m k v =>
    rw [ho] at hx
    simp only at hx
    split at hx
    rotate_left
    · cases hx
    rename_i i id s ag cs hi hm hk hv
    split at hx
    rotate_left
    · cases hx
    rename_i kt et es l hcl hid hl
    split at hx
    rotate_left
    · cases hx
    rename_i hs
    simp only [Option.some.injEq, Prod.mk.injEq] at hx
    obtain ⟨rfl, rfl, rfl, rfl⟩ := hx
    obtain ⟨w', hr, t1, t2⟩ := update_ok hC hR hi hcl hs (RepDX.one_inv (ev hm)) hid (ev hv) hl
    have hke : a.eval k = .string s := (RepDX.one_inv (ev hk)).lit_inv.1
    rw [← hke] at hr
    exact wp_skip' (by simp only [execOp, ho, Sem.run_bind, hr, Result.andThen_ok]; rfl) ⟨_, rfl, ⟨β, _, _, _, hK, t1.setN, t2.setN, ⟨#[], rfl, rfl, by simp⟩⟩⟩
  | mapUpdate T m k v =>
    rw [ho] at hx
    simp only at hx
    split at hx
    rotate_left
    · cases hx
    rename_i i id s ag cs hi hm hk hv
    split at hx
    rotate_left
    · cases hx
    rename_i kt et es l hcl hid hl
    split at hx
    rotate_left
    · cases hx
    rename_i hs
    simp only [Option.some.injEq, Prod.mk.injEq] at hx
    obtain ⟨rfl, rfl, rfl, rfl⟩ := hx
    obtain ⟨w', hr, t1, t2⟩ := update_ok hC hR hi hcl hs (RepDX.one_inv (ev hm)) hid (ev hv) hl
    have hke : a.eval k = .string s := (RepDX.one_inv (ev hk)).lit_inv.1
    rw [← hke] at hr
    exact wp_skip' (by simp only [execOp, ho, Sem.run_bind, hr, Result.andThen_ok]; rfl) ⟨_, rfl, ⟨β, _, _, _, hK, t1.setN, t2.setN, ⟨#[], rfl, rfl, by simp⟩⟩⟩
  | lookup T m k ok =>
    rw [ho] at hx
    simp only at hx
    split at hx
    rotate_left
    · cases hx
    rename_i i id s hi hm hk
    split at hx
    rotate_left
    · cases hx
    rename_i kt et es hcl hid
    split at hx
    rotate_left
    · cases hx
    rename_i z hs hz
    simp only [Option.some.injEq, Prod.mk.injEq] at hx
    obtain ⟨rfl, rfl, rfl, rfl⟩ := hx
    obtain ⟨v, hr, hp⟩ := lookup_ok (ok := ok) (a := s) hC hR hi hcl hs hz (RepDX.one_inv (ev hm)) hid
    have hke : a.eval k = .string s := (RepDX.one_inv (ev hk)).lit_inv.1
    rw [← hke] at hr
    exact wp_value (by simp only [execOp, ho, Sem.run_bind, hr, Result.andThen_ok]; rfl) ⟨_, rfl, Post.pure hR hK hp⟩
  | convert src dst y =>
    rw [ho] at hx
    simp only at hx
    split at hx
    rotate_left
    · cases hx
    rename_i i j s hi hj hy
    split at hx
    rotate_left
    · cases hx
    rename_i e h1 h2
    split at hx
    rotate_left
    · cases hx
    rename_i h3
    simp only [Option.some.injEq, Prod.mk.injEq] at hx
    obtain ⟨rfl, rfl, rfl, rfl⟩ := hx
    obtain ⟨v, w', hr, hp⟩ := toBytes_ok (fid := fid) (s := s) hC hR hi hj h1 h2 h3
    have hye : a.eval y = .string s := (RepDX.one_inv (ev hy)).lit_inv.1
    rw [← hye] at hr
    exact wp_value (by simp only [execOp, ho, Sem.run_bind, hr, Result.andThen_ok]; rfl) ⟨_, rfl, conv hp⟩
  | nilCheck x =>
    rw [ho] at hx
    simp only at hx
    split at hx
    rotate_left
    · cases hx
    rename_i d hd
    split at hx
    rotate_left
    · cases hx
    rename_i hp
    simp only [Option.some.injEq, Prod.mk.injEq] at hx
    obtain ⟨rfl, rfl, rfl, rfl⟩ := hx
    have hr := RepDX.one_inv (ev hd)
    obtain ⟨p, hv⟩ := isPtr_ok hr hp
    exact wp_value (v := a.eval x) (by simp only [execOp, ho, hv]; rfl) ⟨_, rfl, Post.pure hR hK (repOne hr)⟩
  | sliceToArrayPointer T x =>
    rw [ho] at hx
    simp only at hx
    split at hx
    rotate_left
    · cases hx
    rename_i i l hi hl
    split at hx
    rotate_left
    · cases hx
    rename_i n e hcl
    simp only [Option.some.injEq, Prod.mk.injEq] at hx
    obtain ⟨rfl, rfl, rfl, rfl⟩ := hx
    obtain ⟨u, hr, hp⟩ := arrPtr_ok hC hG hR hi hcl (RepDX.one_inv (ev hl)) hP.1 hP.2
    exact wp_value (by simp only [execOp, ho, Sem.run_bind, hr, Result.andThen_ok]; rfl) ⟨_, rfl, Post.pure hR hK (repOne hp)⟩
  | slice T x lo hi mx =>
    rw [ho] at hx
    cases x with
    | global g =>
      cases lo <;> cases hi <;> cases mx <;> simp only at hx <;> try (cases hx; done)
      split at hx
      rotate_left
      · cases hx
      rename_i i hi
      split at hx
      rotate_left
      · cases hx
      rename_i n e hcl
      split at hx
      rotate_left
      · cases hx
      rename_i ie hie
      simp only [Option.some.injEq, Prod.mk.injEq] at hx
      obtain ⟨rfl, rfl, rfl, rfl⟩ := hx
      obtain ⟨tf, d, z, hT⟩ := hC.get hi
      obtain ⟨ef, ed, ez, hE'⟩ := hC.get hie
      have hd : d = .array n e := cls_array (hT.cls.trans hcl)
      have hrun : (Instr.sliceAt T (a.eval (.global g)) none none none).run C.P w = .ok (.slice (some ⟨g, 0, none⟩) n n) w := by
        show (Instr.sliceAt T (.pointer (some ⟨g, 0, none⟩)) none none none).run C.P w = _
        simp [Instr.sliceAt, hT.run_und, hd, Instr.sureAddr, Instr.sliceBounds, hE'.run_size, Addr.add]
      exact wp_value (by simp only [execOp, ho, Sem.run_bind, Option.map_none, hrun, Result.andThen_ok]; rfl) ⟨_, rfl, Post.pure hR hK (repOne (.raw rfl))⟩
    | _ => cases hx
  | makeFunc fn first caps =>
    rw [ho] at hx
    cases fn with
    | func f =>
      simp only at hx
      split at hx
      rotate_left
      · cases hx
      rename_i id hfi hca
      simp only [Option.some.injEq, Prod.mk.injEq] at hx
      obtain ⟨rfl, rfl, rfl, rfl⟩ := hx
      obtain ⟨c, hc⟩ : ∃ c, caps.toList = [c] := List.length_eq_one_iff.1 (by have := congrArg List.length hca; simpa using this)
      rw [hc, List.map_cons, List.map_nil] at hca
      have hev : C.ev E c = some (.val (false, [.ptr id 0])) := by simpa using hca
      obtain ⟨hn, b, hb, hv⟩ := RepDX.one_inv (ev hev)
      have hfe : first = #[] := by apply Array.ext'; simpa using hfi
      have hce : caps = #[c] := by apply Array.ext'; simpa using hc
      have hrun : (Instr.makeFunc (.func f) (first.map a.eval) (caps.map a.eval)).run C.P w = .ok (.func (.func f) #[] #[.pointer (some ⟨b, 0, none⟩)]) w := by
        rw [hfe, hce]
        show Result.ok (Value.func (.func f) (#[].map a.eval) (#[c].map a.eval)) w = _
        simp [hv]
      exact wp_value (by simp only [execOp, ho, Sem.run_bind, hrun, Result.andThen_ok]; rfl) ⟨_, rfl, Post.pure hR hK (repOne ⟨hn, b, hb, rfl⟩)⟩
    | _ => cases hx
  | _ => rw [ho] at hx; cases hx
end
end Go.Fw
namespace Go.Fw
open Go.RowKit (Below)
open Classical
def HCall (C : Ctx) (fid : Nat) (f : FuncId) (xs : List DX) (H : HF) (r : DV) (u : Hp) (R : List Nat) : Prop :=
  fnOk C.P f = true ∧ ∀ (F : Fix) (β : Nat → Option Nat) (N : Nat → Prop) (H' : HF) (w : World) (vs : Array Value), (∀ id ∈ R, H' id = H id) → Globs C F → HeapRel F β N H' w → (∀ id, N id → tag id ≠ tag fid) →
    vs.size = xs.length → (∀ k x, xs[k]? = some x → RepDX F β N H' w (vs.getD k undef) x) →
    Calls C.P f vs w fun e w' => ∃ v β', e = .returned v ∧ Tr F β N H' w β' (setN N fid) (u.on H') w' ∧ HeapRel F β' (setN N fid) (u.on H') w' ∧ RepDV F β' (setN N fid) (u.on H') w' v r
theorem HCall.local {C : Ctx} {fid : Nat} {f : FuncId} {xs : List DX} {H H' : HF} {r : DV} {u : Hp} {R : List Nat} (h : HCall C fid f xs H r u R) (hH : ∀ id ∈ R, H' id = H id) : HCall C fid f xs H' r u R :=
  ⟨h.1, fun F β N H0 w vs hR => h.2 F β N H0 w vs fun id hi => (hR id hi).trans (hH id hi)⟩
def hxCall (ev : Operand → Option DV) (o : Oper) : Option (FuncId × List SV × List (List SC) × List DX) := match o.op with
  | .call c => match c.callee with
    | .value f => match ev f with
      | some (.val (false, [.st (.fn g first caps)])) => match vals (c.args.toList.map ev) with
        | some xs => some (g, first, caps, xs)
        | none => none
      | _ => none
    | _ => none
  | _ => none
def hcA (C : Ctx) (fid : Nat) (o : Oper) (ev : Operand → Option DV) (H : HF) (K : OpK) : Prop := match hxCall ev o with
  | some (g, first, caps, xs) => ∃ r u R, HCall C fid g (first.map dyn ++ xs ++ caps.map fun cs => (false, [.st (.ref cs)])) H r u R ∧ K r u R
  | none => False
def opH (C : Ctx) (fid : Nat) (o : Oper) (ev : Operand → Option DV) (H : HF) (K : OpK) : Prop := opA C fid o ev H K ∨ opX C fid o ev H K ∨ hcA C fid o ev H K
section
variable {C : Ctx} {F : Fix} {β : Nat → Option Nat} {N : Nat → Prop} {H : HF} {fid : Nat} {K : OpK} {w : World}
theorem hxCall_congr {o : Oper} {ev ev' : Operand → Option DV} (he : ∀ x ∈ o.op.operands.toList, ev' x = ev x) : hxCall ev' o = hxCall ev o := by
  unfold hxCall
  cases ho : o.op with
  | call c =>
    simp only
    cases hc : c.callee with
    | value f =>
      simp only
      have h1 : ev' f = ev f := he f (by simp [ho, Op.operands, Call.operands, hc])
      have h2 : c.args.toList.map ev' = c.args.toList.map ev := List.map_congr_left fun x hx => he x (by simp [ho, Op.operands, Call.operands, hc]; exact .inr (by simpa using hx))
      rw [h1, h2]
    | _ => rfl
  | _ => rfl
theorem hcA_local {o : Oper} {ev : Operand → Option DV} (h : hcA C fid o ev H K) : ∃ r u R, K r u R ∧ ∀ (ev' : Operand → Option DV) (H' : HF) (K' : OpK), (∀ x ∈ o.op.operands.toList, ev' x = ev x) → (∀ id ∈ R, H' id = H id) → K' r u R → hcA C fid o ev' H' K' := by
  unfold hcA at h
  split at h
  · rename_i g first caps xs hx
    obtain ⟨r, u, R, h1, h2⟩ := h
    refine ⟨r, u, R, h2, fun ev' H' K' he hH hK => ?_⟩
    unfold hcA
    rw [hxCall_congr he, hx]
    exact ⟨r, u, R, h1.local hH, hK⟩
  · exact h.elim
theorem opH_local {o : Oper} {ev : Operand → Option DV} (h : opH C fid o ev H K) : ∃ r u R, K r u R ∧ ∀ (ev' : Operand → Option DV) (H' : HF) (K' : OpK), (∀ x ∈ o.op.operands.toList, ev' x = ev x) → (∀ id ∈ R, H' id = H id) → K' r u R → opH C fid o ev' H' K' := by
  rcases h with h | h | h
  · obtain ⟨r, u, R, h1, h2⟩ := opA_local h
    exact ⟨r, u, R, h1, fun ev' H' K' he hH hK => .inl (h2 ev' H' K' he hH hK)⟩
  · obtain ⟨r, u, R, h1, h2⟩ := opX_local h
    exact ⟨r, u, R, h1, fun ev' H' K' he hH hK => .inr (.inl (h2 ev' H' K' he hH hK))⟩
  · obtain ⟨r, u, R, h1, h2⟩ := hcA_local h
    exact ⟨r, u, R, h1, fun ev' H' K' he hH hK => .inr (.inr (h2 ev' H' K' he hH hK))⟩
theorem hc_sound (hG : Globs C F) (hR : HeapRel F β N H w) (hf : ∀ id, N id → tag id ≠ tag fid) {E : EF} {a : Act} (hE : EnvRel F β N H w E a) {o : Oper} {Q : Exit → Act → World → Prop} (h : hcA C fid o (C.ev E) H K) :
    o.wp C.P a w (fun a' w' => ∃ v, a' = a.put o.dst v ∧ Post F β N H fid K w v w') Q := by
  unfold hcA at h
  split at h
  rotate_left
  · exact h.elim
  rename_i g first caps xs hx
  obtain ⟨r, u, R, hcall, hK⟩ := h
  unfold hxCall at hx
  split at hx
  rotate_left
  · cases hx
  rename_i c ho
  split at hx
  rotate_left
  · cases hx
  rename_i fo hc
  split at hx
  rotate_left
  · cases hx
  rename_i f' first' caps' hfv
  split at hx
  rotate_left
  · cases hx
  rename_i xs' hvals
  cases hx
  have hfr : RepDX F β N H w (a.eval fo) _ := ev_ok hG hR hE hfv
  have hfn : Rep (MV F β H w) (MR F β H w) (a.eval fo) (.fn g first caps) := hfr.one_inv
  obtain ⟨fv, cv, hfe, hfirst, hcaps⟩ := fn_parts hfn
  obtain ⟨v1, v2⟩ := vals_ok hvals
  have hrun : (execOp a.eval o).run C.P w = .ok (.enter g (fv ++ c.args.map a.eval ++ cv)) w := by
    have hfo := hcall.1
    unfold fnOk at hfo
    split at hfo
    · rename_i fn hfn
      obtain ⟨hname, hbody⟩ := ble_and hfo
      obtain ⟨body, hbody⟩ := Option.isSome_iff_exists.1 hbody
      have hname' : (fn.name == "runtime.NumGoroutine") = false := by simpa using hname
      simp only [execOp, ho, resolve, hc, hfe, Deferred.ofValue, Sem.run_bind, Sem.run_pure, Result.andThen_ok, invoke, callFunc, run_program, hfn, hname', hbody, Option.isNone_some, Bool.false_eq_true, if_false]
    · cases hfo
  have s1 : fv.size = first.length := hfirst.1
  have s2 : c.args.size = xs.length := by rw [v1]; simp
  have s3 : cv.size = caps.length := by have := hcaps.1; simpa using this
  have hargs : ∀ k x, (first.map dyn ++ xs ++ caps.map fun cs => (false, [DC.st (.ref cs)]))[k]? = some x → RepDX F β N H w ((fv ++ c.args.map a.eval ++ cv).getD k undef) x := by
    intro k x hk
    by_cases h1 : k < first.length
    · rw [List.append_assoc, List.getElem?_append_left (by simpa using h1)] at hk
      rw [List.getElem?_map, Option.map_eq_some_iff] at hk
      obtain ⟨y, hy, rfl⟩ := hk
      have hget : (fv ++ c.args.map a.eval ++ cv).getD k undef = fv.getD k undef := by
        simp [Array.getD_eq_getD_getElem?, s1, h1, Nat.lt_of_lt_of_le h1 (Nat.le_add_right _ _)]
      rw [hget]
      exact RepB.dyn ((hfirst.2 k y hy))
    · by_cases h2 : k < first.length + xs.length
      · rw [List.append_assoc, List.getElem?_append_right (by simpa using h1), List.getElem?_append_left (by simp; omega)] at hk
        rw [List.length_map] at hk
        have hd := v2 _ x hk
        simp at hd
        obtain ⟨oo, ho1, ho2⟩ := hd
        have hget : (fv ++ c.args.map a.eval ++ cv).getD k undef = a.eval oo := by
          have e2 : k < first.length + c.args.size := by omega
          simp only [Array.getD_eq_getD_getElem?, Array.getElem?_append, Array.size_append, Array.size_map, h1, e2, if_true, if_false, s1, Array.getElem?_map, ho1]
          rfl
        rw [hget]
        exact ev_ok hG hR hE ho2
      · rw [List.getElem?_append_right (by simp; omega)] at hk
        simp at hk
        obtain ⟨cs, hcs, rfl⟩ := hk
        have hget : (fv ++ c.args.map a.eval ++ cv).getD k undef = cv.getD (k - (first.length + xs.length)) undef := by
          have e1 : ¬ k < first.length + xs.length := h2
          simp only [Array.getD_eq_getD_getElem?, Array.getElem?_append, Array.size_append, Array.size_map, s1, s2, e1, if_false]
        rw [hget]
        have := hcaps.2 (k - (first.length + xs.length)) (false, [.ref cs]) (by simp [hcs])
        exact RepB.dyn this
  have hcalls := hcall.2 F β N H w (fv ++ c.args.map a.eval ++ cv) (fun _ _ => rfl) hG hR hf (by simp [s1, s2, s3]) hargs
  unfold Oper.wp
  rw [hrun]
  refine hcalls.mono fun e w1 he => ?_
  obtain ⟨v, β', rfl, h1, h2, h3⟩ := he
  exact ⟨v, rfl, β', r, u, R, hK, h1, h2, h3⟩
theorem opH_sound (hC : C.Ok) (hG : Globs C F) (hR : HeapRel F β N H w) (hf : ∀ id, N id → tag id ≠ tag fid) {E : EF} {a : Act} (hE : EnvRel F β N H w E a) {o : Oper} {Q : Exit → Act → World → Prop} (h : opH C fid o (C.ev E) H K) :
    o.wp C.P a w (fun a' w' => ∃ v, a' = a.put o.dst v ∧ Post F β N H fid K w v w') Q := by
  rcases h with h | h | h
  · exact op_sound hC hG hR (fun h => hf fid h rfl) hE h
  · exact opX_sound hC hG hR (fun h => hf fid h rfl) hE h
  · exact hc_sound hG hR hf hE h
end
end Go.Fw
