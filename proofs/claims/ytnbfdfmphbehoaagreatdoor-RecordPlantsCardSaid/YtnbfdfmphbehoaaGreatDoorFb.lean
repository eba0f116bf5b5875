/- Framework, part i: operators, slices, append, closures: sound. Program independent. -/

import Derived.Test.YtnbfdfmphbehoaaGreatDoorFa
import Derived.IntWalk
import Derived.Laws.BytesString
namespace Go.Fw
open Go.RowKit (Below)
section
variable {C : Ctx} {F : Fix} {β : Nat → Option Nat} {N : Nat → Prop} {H : HF} {fid : Nat} {K : OpK} {w w' : World} {P : Program}
theorem eqCells_vals : ∀ {l : List Cls} {xs ys : List DC} {a b : List Value} {p : Bool}, a.length = xs.length → b.length = ys.length →
    (∀ (k : Nat) (c : DC) (v : Value), xs[k]? = some c → a[k]? = some v → RepD F β N H w v c) → (∀ (k : Nat) (c : DC) (v : Value), ys[k]? = some c → b[k]? = some v → RepD F β N H w v c) →
    eqCells l xs ys = some p → eqVals l a b = some p
  | [], [], [], a, b, p, ha, hb, _, _, h => by
    have : a = [] := List.length_eq_zero_iff.1 ha
    have : b = [] := List.length_eq_zero_iff.1 hb
    subst a; subst b
    exact h
  | c :: l, x :: xs, y :: ys, a, b, p, ha, hb, h1, h2, h => by
    obtain ⟨u, a, rfl⟩ := List.exists_cons_of_length_eq_add_one ha
    obtain ⟨v, b, rfl⟩ := List.exists_cons_of_length_eq_add_one hb
    unfold eqCells at h
    split at h
    · rename_i heq _ _; cases heq
    · rename_i l1 l2 l3 e1 e2 e3
      cases e1; cases e2; cases e3
      obtain ⟨rfl, _⟩ := (h1 0 _ u rfl rfl).lit_inv
      obtain ⟨rfl, _⟩ := (h2 0 _ v rfl rfl).lit_inv
      split at h
      · rename_i p0 hp0
        split at h
        · rename_i q0 hq0
          have := eqCells_vals (a := a) (b := b) (by simpa using ha) (by simpa using hb) (fun k c v e1 e2 => h1 (k + 1) c v (by simpa using e1) (by simpa using e2)) (fun k c v e1 e2 => h2 (k + 1) c v (by simpa using e1) (by simpa using e2)) hq0
          simpa [eqVals, hp0, this] using h
        · cases h
      · cases h
    · cases h
  | [], _ :: _, _, _, _, _, _, _, _, _, h => by simp [eqCells] at h
  | [], [], _ :: _, _, _, _, _, _, _, _, h => by simp [eqCells] at h
  | _ :: _, [], _, _, _, _, _, _, _, _, h => by simp [eqCells] at h
  | _ :: _, _ :: _, [], _, _, _, _, _, _, _, h => by simp [eqCells] at h
theorem eqGuard_one {op : BinOp} {T : TypeId} {x y : Operand} {a b : Value} (h : ∃ f : Bool, f = true ∧ (match a with | .nilIface => false | .agg _ => false | _ => true) = f) : eqGuard op T x y a b = pure () := by
  obtain ⟨f, rfl, h⟩ := h
  cases a <;> simp at h <;> cases op <;> cases b <;> rfl
theorem eqGuard_nil {op : BinOp} {T : TypeId} {x y : Operand} (h : (isConstOp x || isConstOp y) = true) : eqGuard op T x y .nilIface .nilIface = pure () := by
  cases x <;> cases y <;> simp [isConstOp] at h <;> cases op <;> rfl
theorem eqGuard_err {op : BinOp} {T U : TypeId} {x y : Operand} {u : Value} : eqGuard op T x y (.iface U u) .nilIface = pure () := by
  cases op <;> rfl
theorem agg_eq {T : TypeId} (hT : ∃ i d, P.info? T = some i ∧ P.underlying T = some d ∧ clsAg (clsOf d) = true) {l : List Cls} (hl : leaves P 8 T = some l) {a b : Array Value} {p : Bool} (ha : a.size = l.length) (hb : b.size = l.length)
    (h : eqVals l a.toList b.toList = some p) : (Op.equal T (.agg a) (.agg b)).run P w = .ok p w := by
  obtain ⟨i, d, hi, hd, hag⟩ := hT
  obtain ⟨i', d', hi', hd', hsz, _⟩ := leaves_len hl
  rw [hi] at hi'; cases hi'
  rw [hd] at hd'; cases hd'
  have c1 : cut a 0 l.length = a.toList := by unfold cut; rw [List.drop_zero, ← ha]; exact List.take_of_length_le (by simp)
  have c2 : cut b 0 l.length = b.toList := by unfold cut; rw [List.drop_zero, ← hb]; exact List.take_of_length_le (by simp)
  obtain ⟨u, v, h1, h2, h3⟩ := eqIn_ok (w := w) 8 T l hl Op.maxDepth (by decide) a b 0 p (by omega) (by omega) (by rw [c1, c2]; exact h)
  rw [run_part' hi hd a (by simp [hag])] at h1
  rw [run_part' hi hd b (by simp [hag])] at h2
  simp only [hag, if_true, Result.ok.injEq, and_true] at h1 h2
  have ea : a.extract 0 (0 + i.size) = a := by rw [Nat.zero_add, hsz, ← ha]; simp
  have eb : b.extract 0 (0 + i.size) = b := by rw [Nat.zero_add, hsz, ← hb]; simp
  rw [ea] at h1; rw [eb] at h2
  subst h1; subst h2
  exact h3
theorem binA_ok (hC : C.Ok) (hR : HeapRel F β N H w) {op : BinOp} {T : TypeId} {x y : DX} {xo yo : Operand} {v0 v1 : Value} (hx : RepDX F β N H w v0 x) (hy : RepDX F β N H w v1 y) (h : binA C (isConstOp xo || isConstOp yo) op T x y fun v => K v [] []) :
    ∃ v, (do eqGuard op T xo yo v0 v1; binOp op T v0 v1 : Sem Value).run C.P w = .ok v w ∧ Post F β N H fid K w v w := by
  unfold binA at h
  split at h
  · rename_i a b
    obtain ⟨rfl, _⟩ := hx.one_inv.lit_inv
    obtain ⟨rfl, _⟩ := hy.one_inv.lit_inv
    split at h
    · rename_i i hi
      obtain ⟨tf, d, z, hT⟩ := hC.get hi
      split at h
      · rename_i hcls
        refine ⟨_, ?_, Post.pure hR h (repLit rfl)⟩
        rw [eqGuard_one ⟨true, rfl, rfl⟩]
        have e : (Op.equal T (.bool a) (.bool b)).run C.P w = .ok (a == b) w := by
          unfold Op.equal Op.maxDepth
          exact litEq_ok (n := 9999) (c := .bool) rfl hT.und (hT.cls.trans hcls)
        simp only [Sem.run_bind, Sem.run_pure, Result.andThen_ok]
        show (do pure (.bool (← Op.equal T (.bool a) (.bool b))) : Sem Value).run C.P w = _
        simp only [Sem.run_bind, e, Result.andThen_ok, Sem.run_pure]
      · rename_i hcls
        refine ⟨_, ?_, Post.pure hR h (repLit rfl)⟩
        rw [eqGuard_one ⟨true, rfl, rfl⟩]
        have e : (Op.equal T (.bool a) (.bool b)).run C.P w = .ok (a == b) w := by
          unfold Op.equal Op.maxDepth
          exact litEq_ok (n := 9999) (c := .bool) rfl hT.und (hT.cls.trans hcls)
        simp only [Sem.run_bind, Sem.run_pure, Result.andThen_ok]
        show (do pure (.bool (!(← Op.equal T (.bool a) (.bool b)))) : Sem Value).run C.P w = _
        simp only [Sem.run_bind, e, Result.andThen_ok, Sem.run_pure]
      · exact h.elim
    · exact h.elim
  · obtain ⟨rfl, _⟩ := hx.one_inv.lit_inv
    obtain ⟨rfl, _⟩ := hy.one_inv.lit_inv
    split at h
    · rename_i i hi hnc0
      obtain ⟨tf, d, z, hT⟩ := hC.get hi
      have key : i.cls = .iface → (Op.equal T .nilIface .nilIface).run C.P w = .ok true w := fun hcls => by
        obtain ⟨is, hd⟩ := cls_iface (hT.cls.trans hcls)
        unfold Op.equal Op.maxDepth Op.equalIn
        simp only [Sem.run_bind, hT.run_und, hd, Result.andThen_ok, Sem.run_pure]
      split at h
      · rename_i hcls
        refine ⟨_, ?_, Post.pure hR h (repLit rfl)⟩
        rw [eqGuard_nil hnc0]
        simp only [Sem.run_bind, Sem.run_pure, Result.andThen_ok]
        show (do pure (.bool (← Op.equal T .nilIface .nilIface)) : Sem Value).run C.P w = _
        simp only [Sem.run_bind, key hcls, Result.andThen_ok, Sem.run_pure]
      · rename_i hcls
        refine ⟨_, ?_, Post.pure hR h (repLit rfl)⟩
        rw [eqGuard_nil hnc0]
        simp only [Sem.run_bind, Sem.run_pure, Result.andThen_ok]
        show (do pure (.bool (!(← Op.equal T .nilIface .nilIface))) : Sem Value).run C.P w = _
        simp only [Sem.run_bind, key hcls, Result.andThen_ok, Sem.run_pure]
        rfl
      · exact h.elim
    · exact h.elim
  · obtain ⟨U, u, rfl⟩ := hx.one_inv.err_inv
    obtain ⟨rfl, _⟩ := hy.one_inv.lit_inv
    split at h
    · rename_i i hi
      obtain ⟨tf, d, z, hT⟩ := hC.get hi
      have key : i.cls = .iface → (Op.equal T (.iface U u) .nilIface).run C.P w = .ok false w := fun hcls => by
        obtain ⟨is, hd⟩ := cls_iface (hT.cls.trans hcls)
        unfold Op.equal Op.maxDepth Op.equalIn
        simp only [Sem.run_bind, hT.run_und, hd, Result.andThen_ok, Sem.run_pure]
      split at h
      · rename_i hcls
        refine ⟨_, ?_, Post.pure hR h (repLit rfl)⟩
        rw [eqGuard_err]
        simp only [Sem.run_bind, Sem.run_pure, Result.andThen_ok]
        show (do pure (.bool (← Op.equal T (.iface U u) .nilIface)) : Sem Value).run C.P w = _
        simp only [Sem.run_bind, key hcls, Result.andThen_ok, Sem.run_pure]
      · rename_i hcls
        refine ⟨_, ?_, Post.pure hR h (repLit rfl)⟩
        rw [eqGuard_err]
        simp only [Sem.run_bind, Sem.run_pure, Result.andThen_ok]
        show (do pure (.bool (!(← Op.equal T (.iface U u) .nilIface))) : Sem Value).run C.P w = _
        simp only [Sem.run_bind, key hcls, Result.andThen_ok, Sem.run_pure]
        rfl
      · exact h.elim
    · exact h.elim
  · rename_i dd
    obtain ⟨rfl, _⟩ := hy.one_inv.lit_inv
    split at h
    · rename_i b i hb hi
      obtain ⟨tf, d, z, hT⟩ := hC.get hi
      obtain ⟨p, rfl, hp⟩ : ∃ p : Option Addr, v0 = .pointer p ∧ p.isSome = b := by
        have h1 := hx.one_inv
        unfold isPtr at hb
        split at hb
        · cases hb; obtain ⟨_, b, _, rfl⟩ := h1; exact ⟨_, rfl, rfl⟩
        · cases hb; obtain ⟨_, b, _, rfl⟩ := h1; exact ⟨_, rfl, rfl⟩
        · cases hb
          cases h1 with
          | empty a cap hv => simp [SC.isView] at hv
          | view _ _ _ _ _ hv => simp [SC.isView] at hv
          | ref b o f hc hr => exact ⟨_, rfl, rfl⟩
        · cases hb; obtain ⟨rfl, _⟩ := h1.lit_inv; exact ⟨none, rfl, rfl⟩
        · cases hb
      have key : ∀ e, i.cls = .ptr e → (Op.equal T (.pointer p) (.pointer none)).run C.P w = .ok (!b) w := fun e hcls => by
        obtain ⟨d', hd⟩ : ∃ e', d = .pointer e' := by
          have := hT.cls.trans hcls
          cases d <;> simp [clsOf] at this
          exact ⟨_, rfl⟩
        unfold Op.equal Op.maxDepth Op.equalIn
        subst hp
        cases p <;> simp [Sem.run_bind, hT.run_und, hd, Result.andThen_ok, Sem.run_pure]
      have hg : ∀ op, eqGuard op T xo yo (.pointer p) (.pointer none) = pure () := fun op => eqGuard_one ⟨true, rfl, rfl⟩
      split at h
      · rename_i hcls
        refine ⟨_, ?_, Post.pure hR h (repLit rfl)⟩
        rw [hg]
        simp only [Sem.run_bind, Sem.run_pure, Result.andThen_ok]
        show (do pure (.bool (← Op.equal T (.pointer p) (.pointer none))) : Sem Value).run C.P w = _
        simp only [Sem.run_bind, key _ hcls, Result.andThen_ok, Sem.run_pure]
      · rename_i hcls
        refine ⟨_, ?_, Post.pure hR h (repLit rfl)⟩
        rw [hg]
        simp only [Sem.run_bind, Sem.run_pure, Result.andThen_ok]
        show (do pure (.bool (!(← Op.equal T (.pointer p) (.pointer none)))) : Sem Value).run C.P w = _
        simp only [Sem.run_bind, key _ hcls, Result.andThen_ok, Sem.run_pure, Bool.not_not]
      · exact h.elim
    · exact h.elim
  · rename_i a b hnb hnc hnp
    obtain ⟨rfl, _⟩ := hx.one_inv.lit_inv
    obtain ⟨rfl, _⟩ := hy.one_inv.lit_inv
    obtain ⟨v, hr, hp, hk⟩ := litBin_ok (P := C.P) (w := w) h T
    refine ⟨v, ?_, Post.pure hR hk (repLit hp)⟩
    have hg : eqGuard op T xo yo v0 v1 = pure () := by
      refine eqGuard_one ⟨true, rfl, ?_⟩
      unfold litBin at h
      split at h <;> first | rfl | exact h.elim
    rw [hg]; simpa using hr
  · rename_i xs ys
    obtain ⟨a, rfl, a1, a2⟩ := hx.agg_inv
    obtain ⟨b, rfl, b1, b2⟩ := hy.agg_inv
    split at h
    · rename_i i hi
      obtain ⟨tf, d, z, hT⟩ := hC.get hi
      split at h
      rotate_left
      · exact h.elim
      rename_i hagc
      have key : ∀ {l : List Cls} {p : Bool}, i.eqs = some l → eqCells l xs ys = some p → C.P.eqGuardType C.P.depth T = false ∧ (Op.equal T (.agg a) (.agg b)).run C.P w = .ok p w := by
        intro l p he hp
        have hq := hT.eqs
        rw [he] at hq
        split at hq
        · cases hq
        · rename_i hg
          refine ⟨by simpa using hg, ?_⟩
          have hev := eqCells_vals (a := a.toList) (b := b.toList) (by simpa using a1) (by simpa using b1) (fun k c v e1 e2 => by
            have := a2 k c e1; rwa [getD_of (by simpa using e2)] at this) (fun k c v e1 e2 => by
            have := b2 k c e1; rwa [getD_of (by simpa using e2)] at this) hp
          have hlen : ∀ {l : List Cls} {a b : List Value} {p : Bool}, eqVals l a b = some p → a.length = l.length ∧ b.length = l.length := by
            intro l
            induction l with
            | nil => intro a b p h; cases a <;> cases b <;> simp [eqVals] at h ⊢
            | cons c l ih =>
              intro a b p h
              cases a with
              | nil => simp [eqVals] at h
              | cons x a => cases b with
                | nil => simp [eqVals] at h
                | cons y b =>
                  simp only [eqVals] at h
                  split at h
                  · split at h
                    · rename_i hq; have := ih hq; simp [this]
                    · cases h
                  · cases h
          obtain ⟨l1, l2⟩ := hlen hev
          exact agg_eq ⟨_, _, hT.info, hT.und, by rw [hT.cls]; exact hagc⟩ hq (by simpa using l1) (by simpa using l2) hev
      split at h
      · rename_i l he
        split at h
        · rename_i p hp
          obtain ⟨hg, hr⟩ := key he hp
          refine ⟨_, ?_, Post.pure hR h (repLit rfl)⟩
          have e : (eqGuard .eql T xo yo (.agg a) (.agg b)).run C.P w = .ok () w := by simp [eqGuard, hg]
          simp only [Sem.run_bind, e, Result.andThen_ok]
          show (do pure (.bool (← Op.equal T (.agg a) (.agg b))) : Sem Value).run C.P w = _
          simp only [Sem.run_bind, hr, Result.andThen_ok, Sem.run_pure]
        · exact h.elim
      · rename_i l he
        split at h
        · rename_i p hp
          obtain ⟨hg, hr⟩ := key he hp
          refine ⟨_, ?_, Post.pure hR h (repLit rfl)⟩
          have e : (eqGuard .neq T xo yo (.agg a) (.agg b)).run C.P w = .ok () w := by simp [eqGuard, hg]
          simp only [Sem.run_bind, e, Result.andThen_ok]
          show (do pure (.bool (!(← Op.equal T (.agg a) (.agg b)))) : Sem Value).run C.P w = _
          simp only [Sem.run_bind, hr, Result.andThen_ok, Sem.run_pure]
        · exact h.elim
      · exact h.elim
    · exact h.elim
  · exact h.elim
end
end Go.Fw
namespace Go.Fw
open Go.RowKit (Below)
section
variable {C : Ctx} {F : Fix} {β : Nat → Option Nat} {N : Nat → Prop} {H : HF} {fid : Nat} {K : OpK} {w w' : World} {P : Program}
theorem unA_ok (hR : HeapRel F β N H w) {op : UnOp} {x : DX} {v0 : Value} (hx : RepDX F β N H w v0 x) (h : unA op x fun v => K v [] []) :
    ∃ v, (Op.unary op v0).run P w = .ok v w ∧ Post F β N H fid K w v w := by
  unfold unA at h
  split at h
  · obtain ⟨rfl, _⟩ := hx.one_inv.lit_inv
    exact ⟨_, rfl, Post.pure hR h (repLit rfl)⟩
  · obtain ⟨rfl, _⟩ := hx.one_inv.lit_inv
    exact ⟨_, rfl, Post.pure hR h (repLit rfl)⟩
  · obtain ⟨rfl, _⟩ := hx.one_inv.lit_inv
    exact ⟨_, rfl, Post.pure hR h (repLit rfl)⟩
  · exact h.elim
theorem minmax_ok {mx : Bool} {k : IntKind} : ∀ {xs : List DX} {vs : List Value} {a : Int} {K' : Value → Prop}, vs.length = xs.length → (∀ (j : Nat) (x : DX) (v : Value), xs[j]? = some x → vs[j]? = some v → RepDX F β N H w v x) →
    minmax mx k a xs K' → ∃ v, (vs.foldlM (if mx then Builtin.max2 else Builtin.min2) (.int k a)).run P w = .ok v w ∧ plain v = true ∧ K' v
  | [], vs, a, K', hl, _, h => by
    have : vs = [] := List.length_eq_zero_iff.1 hl
    subst this
    exact ⟨_, rfl, rfl, h⟩
  | x :: xs, vs, a, K', hl, hv, h => by
    obtain ⟨v, vs, rfl⟩ := List.exists_cons_of_length_eq_add_one hl
    unfold minmax at h
    split at h
    · rename_i heq; cases heq
    · rename_i k' b r heq
      cases heq
      split at h
      · rename_i hk
        simp at hk; subst hk
        obtain ⟨rfl, _⟩ := (hv 0 _ v rfl rfl).one_inv.lit_inv
        obtain ⟨u, h1, h2, h3⟩ := minmax_ok (vs := vs) (by simpa using hl) (fun j x v e1 e2 => hv (j + 1) x v (by simpa using e1) (by simpa using e2)) h
        refine ⟨u, ?_, h2, h3⟩
        simp only [List.foldlM_cons]
        cases mx
        · simpa [Builtin.min2] using h1
        · simpa [Builtin.max2] using h1
      · exact h.elim
    · exact h.elim
theorem slice_run {T e : TypeId} (hu : P.underlying T = some (.slice e)) {z : Nat} (hs : (sizeOf e).run P w = .ok z w) {a : Option Addr} {len cap l h : Nat} {lo hi : Option Value}
    (hlo : (match lo with | none => l = 0 | some v => ∃ k, v = .int k (l : Int))) (hhi : (match hi with | none => h = len | some v => ∃ k, v = .int k (h : Int))) (h1 : l ≤ h) (h2 : h ≤ len) (h3 : len ≤ cap) :
    (Instr.sliceAt T (.slice a len cap) lo hi none).run P w = .ok (.slice (if cap = l then a else a.map (·.add (l * z))) (h - l) (cap - l)) w := by
  have e1 : (Instr.sliceBounds true len cap lo hi none).run P w = .ok (l, h, cap) w := by
    have hb : ∀ (k : IntKind) (n y : Nat) (c : BoundsCode), n ≤ y → (Instr.sliceBound (.int k (n : Int)) y c).run P w = .ok n w := by
      intro k n y c hn
      have : 0 ≤ (n : Int) ∧ (n : Int) ≤ (y : Int) := ⟨by omega, by omega⟩
      simp [Instr.sliceBound, asIntOf, this]
    cases lo with
    | none =>
      simp at hlo; subst hlo
      cases hi with
      | none => simp at hhi; subst hhi; simp [Instr.sliceBounds]
      | some v => obtain ⟨k, rfl⟩ := hhi; simp [Instr.sliceBounds, hb _ _ _ _ (show h ≤ cap by omega)]
    | some u =>
      obtain ⟨k, rfl⟩ := hlo
      cases hi with
      | none => simp at hhi; subst hhi; simp [Instr.sliceBounds, hb _ _ _ _ h1]
      | some v => obtain ⟨k', rfl⟩ := hhi; simp [Instr.sliceBounds, hb _ _ _ _ (show h ≤ cap by omega), hb _ _ _ _ h1]
  have e2 : (underlying T).run P w = .ok (.slice e) w := run_underlying hu w
  simp only [Instr.sliceAt, Sem.run_bind, e2, Result.andThen_ok, Instr.slice, e1, hs]
  simp
theorem SC.sub_len {c : SC} (hv : c.isView = true) {l h : Nat} (h2 : h ≤ c.len) : (c.sub l h).len = h - l ∧ (c.sub l h).isView = true := by
  cases c <;> simp [SC.isView] at hv <;> simp [SC.sub, SC.len, SC.isView] at * <;> omega
theorem SC.sub_elem {c : SC} (hv : c.isView = true) {l h i : Nat} {e : List SC} (he : (c.sub l h).elem i = some e) : c.elem (l + i) = some e ∧ l + i < h := by
  cases c with
  | ints xs =>
    simp only [SC.sub, SC.elem, List.getElem?_drop, List.getElem?_take] at he ⊢
    split at he
    · exact ⟨he, by assumption⟩
    · cases he
  | view es =>
    simp only [SC.sub, SC.elem, List.getElem?_drop, List.getElem?_take] at he ⊢
    split at he
    · exact ⟨he, by assumption⟩
    · cases he
  | _ => simp [SC.isView] at hv
theorem Rep.sub {mv mr : Mem} {a : Option Addr} {len cap : Nat} {c : SC} (h : Rep mv mr (.slice a len cap) c) (hv : c.isView = true) {l r z : Nat} (h1 : l ≤ r) (h2 : r ≤ c.len) (hz : ∀ i e, c.elem i = some e → e.length = z) :
    len = c.len ∧ Rep mv mr (.slice (if cap = l then a else a.map (·.add (l * z))) (r - l) (cap - l)) (c.sub l r) := by
  obtain ⟨s1, s2⟩ := SC.sub_len (l := l) hv h2
  by_cases h0 : r - l = 0
  · refine ⟨?_, by rw [h0]; exact .empty _ _ s2 (by omega)⟩
    obtain ⟨a', cap', e, _⟩ := h.len_zero hv
    cases e; rfl
  · cases h with
    | lit hp => simp [SC.isView] at hv
    | err => simp [SC.isView] at hv
    | num => simp [SC.isView] at hv
    | raw => simp [SC.isView] at hv
    | any => simp [SC.isView] at hv
    | empty a cap _ h0' => omega
    | view b o cap z' f _ hpos hz' hcap hl hc hr =>
      obtain ⟨e0, he0⟩ := SC.elem_of_lt hpos
      have : z' = z := by rw [← hl 0 e0 he0, hz 0 e0 he0]
      subst this
      refine ⟨rfl, ?_⟩
      rw [if_neg (by omega)]
      have s1' : (c.sub l r).len = r - l := s1
      rw [← s1', Option.map_some, addr_add]
      refine .view b (o + l * z') (cap - l) z' (fun k => f (l * z' + k)) s2 (by omega) hz' (by omega) (fun i e he => hl _ e (SC.sub_elem hv he).1) (fun k hk => ?_) (fun i e j x he hx => ?_)
      · rw [Nat.add_assoc]
        refine hc _ ?_
        rw [s1'] at hk
        have : (l + (r - l)) * z' ≤ c.len * z' := Nat.mul_le_mul_right _ (by omega)
        rw [Nat.add_mul] at this; omega
      · have := hr (l + i) e j x (SC.sub_elem hv he).1 hx
        rwa [Nat.add_mul, Nat.add_assoc] at this
theorem toInts_ok : ∀ {es : List (List SC)} {ns : List Int}, toInts es = some ns → ns.length = es.length ∧ ∀ (i : Nat) (m : Int), ns[i]? = some m → es[i]? = some [.lit (.int .i64 m)]
  | [], ns, h => by simp [toInts] at h; subst h; simp
  | e :: es, ns, h => by
    unfold toInts at h
    split at h
    · rename_i heq; cases heq
    · rename_i n r heq
      cases heq
      split at h
      · rename_i l hl
        simp at h; subst h
        obtain ⟨h1, h2⟩ := toInts_ok hl
        refine ⟨by simp [h1], fun i m hm => ?_⟩
        cases i with
        | zero => simp at hm; subst hm; rfl
        | succ i => simpa using h2 i m (by simpa using hm)
      · cases h
    · cases h
theorem bnd_ok {d : Option (Option DV)} {dflt : Nat} {K' : Nat → Prop} (h : bnd d dflt K') : ∃ n, K' n ∧ ((d = none ∧ n = dflt) ∨ ∃ k, d = some (some (lit (.int k (n : Int))))) := by
  unfold bnd at h
  split at h
  · exact ⟨_, h, .inl ⟨rfl, rfl⟩⟩
  · rename_i k n
    obtain ⟨h0, h⟩ := h
    exact ⟨_, h, .inr ⟨k, by rw [Int.toNat_of_nonneg h0]; rfl⟩⟩
  · exact h.elim
theorem uni_elem {c : SC} {z : Nat} (h : c.uni z) : ∀ i e, c.elem i = some e → e.length = z := by
  intro i e he
  cases c with
  | ints xs => simp [SC.uni] at h; subst h; simp [SC.elem] at he; obtain ⟨_, _, rfl⟩ := he; rfl
  | view es => exact h e (List.mem_of_getElem? he)
  | _ => simp [SC.elem] at he
theorem opd_bnd (hG : Globs C F) (hR : HeapRel F β N H w) {E : EF} {a : Act} (hE : EnvRel F β N H w E a) {lo : Option Operand} {n dflt : Nat}
    (h : (lo.map (C.ev E) = none ∧ n = dflt) ∨ ∃ k, lo.map (C.ev E) = some (some (lit (.int k (n : Int))))) :
    (match lo.map a.eval with | none => n = dflt | some v => ∃ k, v = .int k (n : Int)) := by
  cases lo with
  | none =>
    rcases h with ⟨_, h⟩ | ⟨k, h⟩
    · exact h
    · cases h
  | some x =>
    rcases h with ⟨h, _⟩ | ⟨k, h⟩
    · cases h
    · simp at h
      have := ev_ok hG hR hE h
      exact ⟨k, (RepDX.one_inv this).lit_inv.1⟩
theorem slice_ok (hC : C.Ok) (hG : Globs C F) (hR : HeapRel F β N H w) {E : EF} {a : Act} (hE : EnvRel F β N H w E a) {T : TypeId} {x : DX} {v0 : Value} {lo hi : Option Operand} (hx : RepDX F β N H w v0 x)
    (h : sliceA C T x (lo.map (C.ev E)) (hi.map (C.ev E)) H K) :
    ∃ v, (Instr.sliceAt T v0 (lo.map a.eval) (hi.map a.eval) none).run C.P w = .ok v w ∧ Post F β N H fid K w v w := by
  unfold sliceA at h
  split at h
  · exact h.elim
  rename_i i hi'
  obtain ⟨tf, d, z, hT⟩ := hC.get hi'
  split at h
  · rename_i e hcls
    have hd := cls_slice (hT.cls.trans hcls)
    split at h
    · exact h.elim
    rename_i ie hie
    obtain ⟨ef, ed, ez, hE'⟩ := hC.get hie
    split at h
    · rename_i c u r hst
      split at h
      · rename_i hx1 hv
        obtain ⟨l, h, hl⟩ := bnd_ok h
        obtain ⟨hh, h, hh'⟩ := bnd_ok h
        obtain ⟨⟨h1, h2⟩, hu, h⟩ := h
        have hlen := stat1L_len hst
        obtain ⟨ag, cs⟩ := x
        simp at hx1; subst hx1
        obtain ⟨dc, hcs, hd0⟩ := hx
        simp at hcs; subst hcs
        have hg : Give C H u := Give.of_freeze (stat1L_freeze hst)
        have hrep := stat1L_rep hR hg.soft (f := fun _ => v0) (fun k d hk => by
          cases k with
          | zero => simp at hk; subst hk; exact hd0
          | succ k => simp at hk) hst (fun p hp => hg.frozen hp (stat1L_freeze hst p hp)) 0 c rfl
        obtain ⟨a0, cap0, rfl, hcap⟩ := hrep.len_zero hv
        obtain ⟨_, hsub⟩ := hrep.sub hv h1 h2 (uni_elem hu)
        refine ⟨_, slice_run (by rw [hT.und, hd]) (hE'.run_size w) (opd_bnd hG hR hE hl) (opd_bnd hG hR hE hh') h1 h2 hcap, Post.still hR hg h (RepDV.setN (repOne hsub))⟩
      · exact h.elim
    · exact h.elim
  · rename_i hcls
    have hd := cls_str (hT.cls.trans hcls)
    split at h
    · rename_i s
      obtain ⟨rfl, _⟩ := hx.one_inv.lit_inv
      obtain ⟨l, h, hl⟩ := bnd_ok h
      obtain ⟨hh, h, hh'⟩ := bnd_ok h
      obtain ⟨⟨h1, h2⟩, h⟩ := h
      have o1 := opd_bnd hG hR hE hl
      have o2 := opd_bnd hG hR hE hh'
      refine ⟨.string (s.extract l hh), ?_, Post.pure hR h (repLit rfl)⟩
      have hb : ∀ (k : IntKind) (n y : Nat) (c : BoundsCode), n ≤ y → (Instr.sliceBound (.int k (n : Int)) y c).run C.P w = .ok n w := by
        intro k n y c hn
        have : 0 ≤ (n : Int) ∧ (n : Int) ≤ (y : Int) := ⟨by omega, by omega⟩
        simp [Instr.sliceBound, asIntOf, this]
      have e1 : (Instr.sliceBounds false s.size s.size (lo.map a.eval) (hi.map a.eval) none).run C.P w = .ok (l, hh, s.size) w := by
        cases hlo : lo.map a.eval with
        | none =>
          rw [hlo] at o1; simp at o1; subst o1
          cases hhi : hi.map a.eval with
          | none => rw [hhi] at o2; simp at o2; subst o2; simp [Instr.sliceBounds]
          | some v => rw [hhi] at o2; obtain ⟨k, rfl⟩ := o2; simp [Instr.sliceBounds, hb _ _ _ _ h2]
        | some u =>
          rw [hlo] at o1; obtain ⟨k, rfl⟩ := o1
          cases hhi : hi.map a.eval with
          | none => rw [hhi] at o2; simp at o2; subst o2; simp [Instr.sliceBounds, hb _ _ _ _ h1]
          | some v => rw [hhi] at o2; obtain ⟨k', rfl⟩ := o2; simp [Instr.sliceBounds, hb _ _ _ _ h2, hb _ _ _ _ h1]
      simp only [Instr.sliceAt, Sem.run_bind, hT.run_und, hd, Result.andThen_ok, Instr.slice]
      simp [e1]
    · exact h.elim
  · rename_i n e hcls
    have hd := cls_array (hT.cls.trans hcls)
    split at h
    · exact h.elim
    rename_i ie hie
    obtain ⟨ef, ed, ez, hE'⟩ := hC.get hie
    split at h
    · rename_i id off hlo hhi
      obtain ⟨hn, b, hbb, rfl⟩ := hx.one_inv
      split at h
      · rename_i t cs hb
        split at h
        · rename_i l u r hst
          split at h
          · rename_i hints hle
            obtain ⟨hle, h1n⟩ := ble_and hle
            obtain ⟨hs1, hnl⟩ := ble_and hle
            have hs1 := Nat.eq_of_beq_eq_true hs1
            have hnl := Nat.le_of_ble_eq_true hnl
            have h1n := Nat.le_of_ble_eq_true h1n
            split at h
            · rename_i ns hns
              have hg : Give C H ((id, some (.fbox l)) :: u) := by
                intro p hp
                rcases List.mem_cons.1 hp with rfl | hp
                · exact .inr ⟨t, cs, l, u, r, hb, rfl, hst, fun q hq => List.mem_cons_of_mem _ hq⟩
                · exact .inl (stat1L_freeze hst p hp)
              obtain ⟨hnl', hnv⟩ := toInts_ok hns
              simp at hnl'
              have hH := hg.heap hR
              have hid : (Hp.on ((id, some (.fbox l)) :: u) H) id = some (.fbox l) := by simp [Hp.on, updH]
              obtain ⟨_, b', arr, T', q1, q2, q3, q4, q5⟩ := hH.rel id _ hid
              rw [hbb] at q1; cases q1
              have hnn : n = ns.length := by omega
              have hrun : (Instr.sliceAt T (.pointer (some ⟨b, off, none⟩)) none none none).run C.P w = .ok (.slice (some ⟨b, off, none⟩) n n) w := by
                have hn0 : ¬ n = 0 := by omega
                simp [Instr.sliceAt, hT.run_und, hd, Instr.sureAddr, Instr.sliceBounds, hE'.run_size, Addr.add]
              refine ⟨.slice (some ⟨b, off, none⟩) n n, ?_, Post.still hR hg h (RepDV.setN (repOne ?_))⟩
              · have e1 : lo.map a.eval = none := by cases lo with | none => rfl | some x => simp at hlo
                have e2 : hi.map a.eval = none := by cases hi with | none => rfl | some x => simp at hhi
                rw [e1, e2]; exact hrun
              · show Rep _ _ _ _
                have hlenv : (SC.ints ns).len = n := by simp [SC.len, hnn]
                have := @Rep.view (MV F β (Hp.on ((id, some (.fbox l)) :: u) H) w) (MR F β (Hp.on ((id, some (.fbox l)) :: u) H) w) (.ints ns) b off n 1 (fun k => arr.getD (off + k) undef) rfl (by omega) (by omega) (by omega) (fun i e he => by
                  simp [SC.elem] at he; obtain ⟨_, _, rfl⟩ := he; rfl) (fun k hk => by
                  rw [MV_base q2 (stable_fbox hR hg.soft hid hbb (off + k))]
                  exact rd_cells q3 (by omega)) (fun i e j x he hx => by
                  simp [SC.elem] at he
                  obtain ⟨m, hm, rfl⟩ := he
                  have hj : j = 0 := by
                    have := (List.getElem?_eq_some_iff.1 hx).1
                    simpa using this
                  subst hj
                  simp at hx; subst hx
                  have hli := hnv i m hm
                  simp only [List.getElem?_map, Option.map_eq_some_iff] at hli
                  obtain ⟨c, hc, e⟩ := hli
                  rw [List.getElem?_take] at hc
                  split at hc
                  · rw [List.getElem?_drop] at hc
                    simp at e; subst e
                    have := q5 _ _ hc
                    simpa using this.flat rfl
                  · cases hc)
                rwa [hlenv] at this
            · exact h.elim
          · exact h.elim
        · exact h.elim
      · rename_i l hb
        split at h
        · rename_i hints hle
          obtain ⟨hle, h1n⟩ := ble_and hle
          obtain ⟨hs1, hnl⟩ := ble_and hle
          have hs1 := Nat.eq_of_beq_eq_true hs1
          have hnl := Nat.le_of_ble_eq_true hnl
          have h1n := Nat.le_of_ble_eq_true h1n
          split at h
          · rename_i ns hns
            have hg : Give C H ([] : Hp) := by
              intro p hp
              simp at hp
            obtain ⟨hnl', hnv⟩ := toInts_ok hns
            simp at hnl'
            have hH := hg.heap hR
            have hid : (Hp.on ([] : Hp) H) id = some (.fbox l) := by simpa [Hp.on] using hb
            obtain ⟨_, b', arr, T', q1, q2, q3, q4, q5⟩ := hH.rel id _ hid
            rw [hbb] at q1; cases q1
            have hnn : n = ns.length := by omega
            have hrun : (Instr.sliceAt T (.pointer (some ⟨b, off, none⟩)) none none none).run C.P w = .ok (.slice (some ⟨b, off, none⟩) n n) w := by
              have hn0 : ¬ n = 0 := by omega
              simp [Instr.sliceAt, hT.run_und, hd, Instr.sureAddr, Instr.sliceBounds, hE'.run_size, Addr.add]
            refine ⟨.slice (some ⟨b, off, none⟩) n n, ?_, Post.still hR hg h (RepDV.setN (repOne ?_))⟩
            · have e1 : lo.map a.eval = none := by cases lo with | none => rfl | some x => simp at hlo
              have e2 : hi.map a.eval = none := by cases hi with | none => rfl | some x => simp at hhi
              rw [e1, e2]; exact hrun
            · show Rep _ _ _ _
              have hlenv : (SC.ints ns).len = n := by simp [SC.len, hnn]
              have := @Rep.view (MV F β (Hp.on ([] : Hp) H) w) (MR F β (Hp.on ([] : Hp) H) w) (.ints ns) b off n 1 (fun k => arr.getD (off + k) undef) rfl (by omega) (by omega) (by omega) (fun i e he => by
                simp [SC.elem] at he; obtain ⟨_, _, rfl⟩ := he; rfl) (fun k hk => by
                rw [MV_base q2 (stable_fbox hR hg.soft hid hbb (off + k))]
                exact rd_cells q3 (by omega)) (fun i e j x he hx => by
                simp [SC.elem] at he
                obtain ⟨m, hm, rfl⟩ := he
                have hj : j = 0 := by
                  have := (List.getElem?_eq_some_iff.1 hx).1
                  simpa using this
                subst hj
                simp at hx; subst hx
                have hli := hnv i m hm
                simp only [List.getElem?_map, Option.map_eq_some_iff] at hli
                obtain ⟨c, hc, e⟩ := hli
                rw [List.getElem?_take] at hc
                split at hc
                · rw [List.getElem?_drop] at hc
                  simp at e; subst e
                  have := q5 _ _ hc
                  simpa using this.flat rfl
                · cases hc)
              rwa [hlenv] at this
          · exact h.elim
        · exact h.elim
      · exact h.elim
    · exact h.elim
  · exact h.elim
end
end Go.Fw
namespace Go.Fw
open Go.RowKit (Below)
section
variable {C : Ctx} {F : Fix} {β : Nat → Option Nat} {N : Nat → Prop} {H : HF} {fid : Nat} {K : OpK} {w w' : World} {P : Program}
theorem fill_seq {z : Nat} : ∀ {parts : List (Nat × Value)} {n : Nat} {arr : Array Value}, (∀ (k : Nat) (p : Nat × Value), parts[k]? = some p → p.1 = n + k ∧ p.2.cells.size = z) → (n + parts.length) * z ≤ arr.size →
    ∃ arr', Instr.fill (fun i => some (i * z, z)) arr parts = some arr' ∧ arr'.size = arr.size ∧ (∀ (k : Nat) (p : Nat × Value) (j : Nat), parts[k]? = some p → j < z → arr'[(n + k) * z + j]? = p.2.cells[j]?) ∧ (∀ o, o < n * z → arr'[o]? = arr[o]?)
  | [], n, arr, _, _ => ⟨arr, rfl, rfl, by simp, fun _ _ => rfl⟩
  | (i, v) :: parts, n, arr, hp, hs => by
    obtain ⟨hi, hv⟩ := hp 0 _ rfl
    simp at hi hv; subst hi
    have e1 : (i + (parts.length + 1)) * z = i * z + z + parts.length * z := by rw [Nat.add_mul, Nat.add_mul]; omega
    simp only [List.length_cons] at hs
    rw [e1] at hs
    have hlc : v.cells.toList.length = z := by simpa using hv
    have hsz : (spliceA arr (i * z) v.cells.toList).size = arr.size := spliceA_size (by omega)
    have e2 : (i + 1 + parts.length) * z = i * z + z + parts.length * z := by rw [Nat.add_mul, Nat.add_mul]; omega
    obtain ⟨arr', f1, f2, f3, f4⟩ := fill_seq (parts := parts) (n := i + 1) (arr := spliceA arr (i * z) v.cells.toList) (fun k p hk => by
      obtain ⟨h1, h2⟩ := hp (k + 1) p (by simpa using hk)
      exact ⟨by omega, h2⟩) (by rw [hsz, e2]; exact hs)
    have hfold : v.cells.zipIdx.foldl (fun cs (p : Value × Nat) => cs.setIfInBounds (i * z + p.2) p.1) arr = spliceA arr (i * z) v.cells.toList := by
      have := foldl_set (i * z) v.cells.toList 0 arr (by rw [hlc]; omega)
      rw [Nat.add_zero] at this
      rw [← this, ← Array.foldl_toList]
      simp
    refine ⟨arr', ?_, by rw [f2, hsz], fun k p j hk hj => ?_, fun o ho => ?_⟩
    · have g1 : ¬ (v.cells.size ≠ z) := by omega
      have g2 : ¬ (i * z + v.cells.size > arr.size) := by omega
      simp only [Instr.fill, g1, g2, decide_false, Bool.or_false, Bool.false_eq_true, if_false]
      rw [← f1, ← hfold]
    · cases k with
      | zero =>
        simp at hk; subst hk
        have : (i + 1) * z = i * z + z := by rw [Nat.add_mul]; omega
        rw [Nat.add_zero, f4 _ (by omega), spliceA_get (by omega), if_neg (by omega), if_pos (by omega)]
        simp
      | succ k =>
        have := f3 k p j (by simpa using hk) hj
        rwa [show i + 1 + k = i + (k + 1) by omega] at this
    · have : (i + 1) * z = i * z + z := by rw [Nat.add_mul]; omega
      rw [f4 o (by omega), spliceA_get (by omega), if_pos ho]
theorem litElems_ok {ks : List Bool} {z : Nat} : ∀ {ps : List (Nat × Option DV)} {n : Nat} {es : List (List SC)} {u : Hp} {r : List Nat}, litElems H ks z n ps = some (es, u, r) →
    (∀ p ∈ u, FreezeE H p) ∧ es.length = ps.length ∧ ∀ (k : Nat) (e : List SC), es[k]? = some e → ∃ x ue re, ps[k]? = some (n + k, some (.val x)) ∧ x.2.length = z ∧ flats e = true ∧ stat1L H ks x.2 = some (e, ue, re) ∧ ∀ q ∈ ue, q ∈ u
  | [], n, es, u, r, h => by simp [litElems] at h; obtain ⟨rfl, rfl, _⟩ := h; simp
  | p :: ps, n, es, u, r, h => by
    unfold litElems at h
    split at h
    · rename_i heq; cases heq
    · rename_i n0 i x rest heq
      cases heq
      split at h
      · rename_i hb
        obtain ⟨h1, h2⟩ := ble_and hb
        have h1 := Nat.eq_of_beq_eq_true h1
        have h2 := Nat.eq_of_beq_eq_true h2
        subst h1
        split at h
        · rename_i e u1 r1 hst
          split at h
          · rename_i es' u2 r2 hf hrec
            simp at h
            obtain ⟨rfl, rfl, _⟩ := h
            obtain ⟨q1, q2, q3⟩ := litElems_ok hrec
            refine ⟨fun p hp => ?_, by simp [q2], fun k e' hk => ?_⟩
            · rcases List.mem_append.1 hp with hp | hp
              · exact stat1L_freeze hst p hp
              · exact q1 p hp
            · cases k with
              | zero =>
                simp at hk; subst hk
                exact ⟨x, u1, r1, rfl, h2, hf, hst, fun q hq => List.mem_append.2 (.inl hq)⟩
              | succ k =>
                obtain ⟨x', ue, re, a1, a2, a3, a4, a5⟩ := q3 k e' (by simpa using hk)
                exact ⟨x', ue, re, by simpa [Nat.add_assoc, Nat.add_comm 1 k] using a1, a2, a3, a4, fun q hq => List.mem_append.2 (.inr (a5 q hq))⟩
          · cases h
        · cases h
      · cases h
    · cases h
theorem mkRow_ok {k : Bool} {es : List (List SC)} {c : SC} (h : mkRow k es = some c) : c.isView = true ∧ c.len = es.length ∧ ∀ i e, c.elem i = some e → es[i]? = some e := by
  unfold mkRow at h
  split at h
  · split at h
    · rename_i l hl
      simp at h; subst h
      obtain ⟨h1, h2⟩ := toInts_ok hl
      refine ⟨rfl, h1, fun i e he => ?_⟩
      simp [SC.elem] at he
      obtain ⟨m, hm, rfl⟩ := he
      exact h2 i m hm
    · cases h
  · simp at h; subst h
    exact ⟨rfl, rfl, fun i e he => he⟩
theorem buildSlice_ok (hC : C.Ok) (hG : Globs C F) (hR : HeapRel F β N H w) (hf : ¬ N fid) {E : EF} {a : Act} (hE : EnvRel F β N H w E a) {o : Oper} {T : TypeId} {len : Nat} {parts : Array (Nat × Operand)} (ho : o.op = .buildSlice T len parts)
    (h : opA C fid o (C.ev E) H K) : ∃ v w', (Instr.buildSlice T len (parts.map fun p => (p.1, a.eval p.2))).run C.P w = .ok v w' ∧ Post F β N H fid K w v w' := by
  unfold opA at h
  rw [ho] at h
  simp only at h
  obtain ⟨hl, hp⟩ := parts_ok hG hR hE parts
  split at h
  · rename_i i hi
    obtain ⟨tf, d, z, hT⟩ := hC.get hi
    split at h
    · rename_i e hcls
      have hd := cls_slice (hT.cls.trans hcls)
      split at h
      · rename_i ie hie
        obtain ⟨ef, ed, ez, hE'⟩ := hC.get hie
        split at h
        · rename_i hb
          obtain ⟨hb, h3⟩ := ble_and hb
          obtain ⟨h1, h2⟩ := ble_and hb
          have h1 := Nat.le_of_ble_eq_true h1
          have h2 := Nat.le_of_ble_eq_true h2
          have h3 := Nat.eq_of_beq_eq_true h3
          split at h
          · rename_i es u r hes
            split at h
            · rename_i c hc
              obtain ⟨q1, q2, q3⟩ := litElems_ok hes
              obtain ⟨c1, c2, c3⟩ := mkRow_ok hc
              have hlen : es.length = len := by rw [q2]; simpa using h3
              have hzero : ∃ arr0 : Array Value, arr0.size = len * ie.size ∧ ∀ cells, Instr.fill (fun i => some (i * ie.size, ie.size)) arr0 (parts.map fun (p : Nat × Operand) => (p.1, a.eval p.2)).toList = some cells →
                  (Instr.buildSlice T len (parts.map fun (p : Nat × Operand) => (p.1, a.eval p.2))).run C.P w = .ok (.slice (some ⟨w.heap.size, 0, none⟩) len len) (w.alloc (.cells cells e)) := by
                have hn : ¬ (len * ie.size > 2 ^ 24) := by
                  have : (2:Nat) ^ 24 = 16777216 := by decide
                  omega
                refine ⟨(Array.range (len * ie.size)).map (fun x => (if len * ie.size = 0 then #[] else ez.cells)[x % (if len * ie.size = 0 then #[] else ez.cells).size]!), by simp, fun cells hcells => ?_⟩
                simp only [Instr.buildSlice, Sem.run_bind, hT.run_und, hd, Result.andThen_ok, hE'.run_size, hn, if_false]
                by_cases h0 : len * ie.size = 0
                · rw [if_pos h0] at hcells
                  simp only [h0, if_true, Sem.run_bind, Sem.run_pure, Result.andThen_ok]
                  rw [h0] at hcells
                  rw [hcells]
                  simp [newRow]
                · rw [if_neg h0] at hcells
                  simp only [h0, if_false, Sem.run_bind, hE'.run_zero, Result.andThen_ok, Sem.run_pure]
                  rw [hcells]
                  simp [newRow]
              obtain ⟨arr0, hs0, hrun⟩ := hzero
              have hpl : (parts.map fun (p : Nat × Operand) => (p.1, a.eval p.2)).toList.length = len := by simpa using h3
              have hpart : ∀ (k : Nat) (p : Nat × Value), (parts.map fun (p : Nat × Operand) => (p.1, a.eval p.2)).toList[k]? = some p → ∃ x e ue re, es[k]? = some e ∧ p.1 = k ∧ x.2.length = ie.size ∧ RepDX F β N H w p.2 x ∧ flats e = true ∧ stat1L H ie.kinds x.2 = some (e, ue, re) ∧ ∀ q ∈ ue, q ∈ u := by
                intro k p hk
                have hkl : k < es.length := by
                  rw [hlen, ← hpl]
                  exact (List.getElem?_eq_some_iff.1 hk).1
                obtain ⟨x, ue, re, a1, a2, a3, a4, a5⟩ := q3 k es[k] (by simp [hkl])
                obtain ⟨b1, b2⟩ := hp k p _ hk a1
                exact ⟨x, es[k], ue, re, by simp [hkl], by simpa using b1, a2, b2 _ rfl, a3, a4, a5⟩
              obtain ⟨arr', f1, f2, f3, f4⟩ := fill_seq (z := ie.size) (parts := (parts.map fun (p : Nat × Operand) => (p.1, a.eval p.2)).toList) (n := 0) (arr := arr0) (fun k p hk => by
                obtain ⟨x, e, ue, re, a1, a2, a3, a4, _⟩ := hpart k p hk
                exact ⟨by omega, by rw [a4.cells.1, a3]⟩) (by rw [hpl, hs0]; simp)
              refine ⟨.slice (some ⟨w.heap.size, 0, none⟩) len len, w.alloc (.cells arr' e), hrun _ f1, ?_⟩
              have hg : Give C H u := Give.of_freeze q1
              refine Post.new (b := some w.heap.size) (hg.heap hR) hg.soft.tr hf (Below.alloc1 w _) (by simp) h (fun H1 hH1 _ t2 => ?_) (fun H1 hH1 => repOne ⟨.inr rfl, rfl, fun blk0 z' n' hb hz' => ?_⟩)
              · have hel : ∀ i e, c.elem i = some e → e.length = ie.size := by
                  intro i e he
                  have hei := c3 i e he
                  obtain ⟨x, ue, re, a1, a2, a3, a4, a5⟩ := q3 i e hei
                  rw [stat1L_len a4, a2]
                refine ⟨⟨h1, c1, hel⟩, .inr ⟨w.heap.size, len, by simp [setB], Fix.mine_new hR.below.size, arr', e, alloc_at w _, by rw [f2, hs0], h1, c1, by omega, hel, fun i e j x he hx => ?_⟩⟩
                have hei := c3 i e he
                have hil : i < (parts.map fun (p : Nat × Operand) => (p.1, a.eval p.2)).toList.length := by rw [hpl, ← hlen]; exact (List.getElem?_eq_some_iff.1 hei).1
                obtain ⟨x0, e0, ue, re, a1, a2, a3, a4, a5, a6, a7⟩ := hpart i _ (List.getElem?_eq_getElem hil)
                rw [hei] at a1; cases a1
                have hjz : j < ie.size := by
                  have := (List.getElem?_eq_some_iff.1 hx).1
                  rw [stat1L_len a6, a3] at this; exact this
                have := f3 i _ j (List.getElem?_eq_getElem hil) hjz
                rw [Nat.zero_add] at this
                rw [getD_congr this]
                have hrep := stat1L_rep hR hg.soft (f := fun k => ((parts.map fun (p : Nat × Operand) => (p.1, a.eval p.2)).toList[i]).2.cells.getD k undef) (fun k d hk => a4.cells.2 k d hk) a6 (fun q hq => hg.frozen (a7 q hq) (stat1L_freeze a6 q hq)) j x hx
                exact (hrep.flat (flats_get a5 j x hx)).mono t2.mv (Mem.le_refl _)
              · subst hH1
                rw [updH_same] at hb; cases hb; cases hz'
                exact .inr ⟨w.heap.size, len, arr', e, by simp [setB], by rw [c2, hlen], alloc_at w _, by rw [f2, hs0]⟩
            · exact h.elim
          · exact h.elim
        · exact h.elim
      · exact h.elim
    · exact h.elim
  · exact h.elim
end
end Go.Fw
namespace Go.Fw
open Go.RowKit (Below)
section
variable {C : Ctx} {F : Fix} {β : Nat → Option Nat} {N : Nat → Prop} {H : HF} {fid : Nat} {K : OpK} {w w' : World} {P : Program}
theorem wrap_i64 {n : Int} (h0 : -9223372036854775808 ≤ n) (h1 : n ≤ 9223372036854775807) : IntKind.i64.wrap n = n := IntWalk.i64_in n ⟨h0, h1⟩
theorem wrap_small {n : Int} (h0 : 0 ≤ n) (h1 : n ≤ 4294967296) : IntKind.i64.wrap n = n := wrap_i64 (by omega) (by omega)
theorem nilOf_flat (k : Bool) : (nilOf k).flat = true := by cases k <;> rfl
theorem zerosS_ok : ∀ {ks : List Bool} {zs : List Value} {cs : List SC}, zerosS ks (zs.map zcOf) = some cs → cs.length = zs.length ∧ flats cs = true ∧ ∀ (mv mr : Mem) (k : Nat) (c : SC), cs[k]? = some c → ∃ v, zs[k]? = some v ∧ Rep mv mr v c
  | ks, [], cs, h => by simp [zerosS] at h; subst h; simp [flats]
  | ks, z :: zs, cs, h => by
    rw [List.map_cons] at h
    cases hz : zcOf z with
    | nil =>
      rw [hz] at h
      simp only [zerosS] at h
      split at h
      · rename_i ds hds
        simp at h; subst h
        obtain ⟨h1, h2, h3⟩ := zerosS_ok hds
        have hzz : z = .slice none 0 0 := by
          unfold zcOf at hz
          split at hz
          · rfl
          · cases hz
        refine ⟨by simp [h1], (show (match (nilOf (ks.head?.getD false)).flat with | true => flats ds | false => false) = true by rw [nilOf_flat]; exact h2), fun mv mr k c hk => ?_⟩
        cases k with
        | zero =>
          simp only [List.getElem?_cons_zero, Option.some.injEq] at hk; subst hk
          refine ⟨z, rfl, ?_⟩
          rw [hzz]
          cases ks.head?.getD false <;> exact .empty _ _ rfl rfl
        | succ k => exact h3 mv mr k c (by simpa using hk)
      · cases h
    | lit v =>
      rw [hz] at h
      simp only [zerosS] at h
      split at h
      · rename_i hp
        split at h
        · rename_i ds hds
          simp at h; subst h
          obtain ⟨h1, h2, h3⟩ := zerosS_ok hds
          have hzz : z = v := by
            unfold zcOf at hz
            split at hz
            · cases hz
            · cases hz; rfl
          refine ⟨by simp [h1], by simp [flats, SC.flat, h2], fun mv mr k c hk => ?_⟩
          cases k with
          | zero => simp at hk; subst hk; exact ⟨z, rfl, by rw [hzz]; exact .lit hp⟩
          | succ k => exact h3 mv mr k c (by simpa using hk)
        · cases h
      · cases h
theorem makeSlice_ok (hC : C.Ok) (hR : HeapRel F β N H w) (hf : ¬ N fid) {T : TypeId} {x y : DX} {v0 v1 : Value} (hx : RepDX F β N H w v0 x) (hy : RepDX F β N H w v1 y) (h : makeSliceA C fid T x y K) :
    ∃ v w', (Instr.makeSlice T v0 v1).run C.P w = .ok v w' ∧ Post F β N H fid K w v w' := by
  unfold makeSliceA at h
  split at h
  · exact h.elim
  rename_i i hi
  obtain ⟨tf, d, z, hT⟩ := hC.get hi
  split at h
  · rename_i e k1 n k2 m hcls
    have hd := cls_slice (hT.cls.trans hcls)
    obtain ⟨rfl, _⟩ := hx.one_inv.lit_inv
    obtain ⟨rfl, _⟩ := hy.one_inv.lit_inv
    split at h
    · exact h.elim
    rename_i ie hie
    obtain ⟨ef, ed, ez, hE'⟩ := hC.get hie
    split at h
    · rename_i hb
      obtain ⟨hb, hz3⟩ := ble_and hb
      obtain ⟨h1, h2⟩ := ble_and hb
      have h1 := Nat.le_of_ble_eq_true h1
      have h2 := Nat.le_of_ble_eq_true h2
      have hz3 := Nat.eq_of_beq_eq_true hz3
      obtain ⟨⟨g0, g1, g2⟩, h⟩ := h
      have g3 : m ≤ 4294967296 := g2
      have hzl : ez.cells.size = ie.size := by
        rw [← hz3, ← hE'.zeroc]; simp
      have hbig : ¬ ((ie.bytes : Int) * m > 2 ^ 48) := by
        have e : (2 : Int) ^ 48 = 281474976710656 := by decide
        rw [e]
        have : (ie.bytes : Int) * m ≤ 4096 * 4294967296 := Int.mul_le_mul (by omega) g3 (by omega) (by omega)
        omega
      have hbytes : ef.bytes = ie.bytes := hE'.bytes
      have hrun : ∃ arr : Array Value, arr.size = m.toNat * ie.size ∧ (∀ o, o < arr.size → arr[o]? = ez.cells[o % ie.size]?) ∧ (Instr.makeSlice T (.int k1 n) (.int k2 m)).run C.P w = .ok (.slice (some ⟨w.heap.size, 0, none⟩) n.toNat m.toNat) (w.alloc (.cells arr e)) := by
        refine ⟨(Array.range (m.toNat * ie.size)).map (fun x => (if m.toNat * ie.size = 0 then #[] else ez.cells)[x % (if m.toNat * ie.size = 0 then #[] else ez.cells).size]!), by simp, fun o ho => ?_, ?_⟩
        · simp at ho
          have hne : ¬ (m.toNat * ie.size = 0) := by omega
          have hlt' : o % ie.size < ie.size := Nat.mod_lt _ (by omega)
          simp [ho, hne, hzl, hlt', Array.getElem!_eq_getD, Array.getD]
        · have e1 : IntKind.i64.wrap n = n := wrap_small g0 (by omega)
          have e2 : IntKind.i64.wrap m = m := wrap_small (by omega) g3
          have c1 : ¬ m < 0 := by omega
          have c2 : ¬ n < 0 := by omega
          have c3 : ¬ n > m := by omega
          simp only [Instr.makeSlice, Sem.run_bind, hT.run_und, hd, Result.andThen_ok, asInt, asIntOf, Sem.run_pure, hE'.run_info, hbytes, e1, e2, c1, c2, c3, hbig, decide_false, Bool.or_false, Bool.false_or, Bool.false_eq_true, if_false, run_askRoom, hE'.run_size]
          by_cases h0 : m.toNat * ie.size = 0
          · simp [h0, newRow]
          · simp [h0, hE'.run_zero, newRow]
      obtain ⟨arr, a1, a2, hrun⟩ := hrun
      have key : ∀ (c : SC) (el : List SC), c.isView = true → c.len = n.toNat → (∀ i e, c.elem i = some e → e = el) → el.length = ie.size → (∀ (mv mr : Mem) (k : Nat) (x : SC), el[k]? = some x → ∃ v, ez.cells[k]? = some v ∧ Rep mv mr v x) →
          K (one (.own fid)) [(fid, some (.row true ie.size c))] [] → Post F β N H fid K w (.slice (some ⟨w.heap.size, 0, none⟩) n.toNat m.toNat) (w.alloc (.cells arr e)) := by
        intro c el cv cl ce cel cz hK
        refine Post.new (u := []) (b := some w.heap.size) hR Tr.refl hf (Below.alloc1 w _) (by simp) hK (fun H1 hH1 _ t2 => ?_) (fun H1 hH1 => repOne ⟨.inr rfl, rfl, fun blk0 z' n' hb hz' => ?_⟩)
        · have hel : ∀ i e, c.elem i = some e → e.length = ie.size := fun i e he => by rw [ce i e he]; exact cel
          refine ⟨⟨h1, cv, hel⟩, .inr ⟨w.heap.size, m.toNat, by simp [setB], Fix.mine_new hR.below.size, arr, e, alloc_at w _, a1, h1, cv, by omega, hel, fun i e' j x he hx => ?_⟩⟩
          have := ce i e' he
          subst this
          have hj : j < ie.size := by rw [← cel]; exact (List.getElem?_eq_some_iff.1 hx).1
          obtain ⟨v, v1, v2⟩ := cz (MV F (setB β fid (some w.heap.size)) H1 (w.alloc (.cells arr e))) nomem j x hx
          have hi' : i < n.toNat := by rw [← cl]; exact SC.elem_lt he
          have hlt : i * ie.size + j < arr.size := by
            rw [a1]
            have : (i + 1) * ie.size ≤ m.toNat * ie.size := Nat.mul_le_mul_right _ (by omega)
            rw [Nat.add_mul] at this; omega
          have := a2 _ hlt
          rw [Nat.mul_comm i, Nat.mul_add_mod, Nat.mod_eq_of_lt hj, v1, Nat.mul_comm] at this
          rw [getD_of this]
          exact v2
        · subst hH1
          rw [updH_same] at hb; cases hb; cases hz'
          exact .inr ⟨w.heap.size, m.toNat, arr, e, by simp [setB], by rw [cl], alloc_at w _, a1⟩
      refine ⟨_, _, hrun, ?_⟩
      split at h
      · split at h
        · rename_i hzero
          have hzc := hE'.zeroc
          rw [hzero] at hzc
          have hcells : ez.cells = #[.int .i64 0] := by
            apply Array.ext'
            cases hl : ez.cells.toList with
            | nil => rw [hl] at hzc; simp at hzc
            | cons v t =>
              rw [hl] at hzc
              simp at hzc
              obtain ⟨hv, rfl⟩ := hzc
              unfold zcOf at hv
              split at hv
              · cases hv
              · cases hv; rfl
          refine key _ [.lit (.int .i64 0)] rfl (by simp [SC.len]) (fun i e he => ?_) (by rw [← hzl, hcells]; rfl) (fun mv mr k x hk => ?_) h
          · simp [SC.elem, List.getElem?_replicate] at he
            obtain ⟨_, he⟩ := he; exact he.symm
          · cases k with
            | zero => simp at hk; subst hk; exact ⟨.int .i64 0, by rw [hcells]; rfl, .lit rfl⟩
            | succ k => simp at hk
        · exact h.elim
      · split at h
        · rename_i zs hzs
          rw [← hE'.zeroc] at hzs
          obtain ⟨b1, b2, b3⟩ := zerosS_ok hzs
          refine key _ zs rfl (by simp [SC.len]) (fun i e he => ?_) (by rw [b1]; simpa using hzl) (fun mv mr k x hk => by
            obtain ⟨v, v1, v2⟩ := b3 mv mr k x hk
            exact ⟨v, by simpa using v1, v2⟩) h
          simp [SC.elem, List.getElem?_replicate] at he
          exact he.2.symm
        · exact h.elim
    · exact h.elim
  · exact h.elim
end
end Go.Fw
namespace Go.Fw
open Go.RowKit (Below)
section
variable {C : Ctx} {F : Fix} {β : Nat → Option Nat} {N : Nat → Prop} {H : HF} {fid : Nat} {K : OpK} {w w' : World} {P : Program}
theorem MV_rd (_hG : Globs C F) (hR : HeapRel F β N H w) {b o : Nat} {v : Value} (h : MV F β H w b o = some v) : rd w b o = some v := by
  unfold MV at h
  split at h
  · split at h
    · exact h
    · cases h
  · exact (hR.mem0 b o v h).1
theorem elems_one {mv : Mem} {c : SC} {z : Nat} {new : Array Value} (hz : 0 < z) (hs : new.size = c.len * z) (hl : ∀ i e, c.elem i = some e → e.length = z)
    (hr : ∀ (i : Nat) (e : List SC) (j : Nat) (x : SC), c.elem i = some e → e[j]? = some x → Rep mv nomem (new.getD (i * z + j) undef) x) : ∀ u ∈ new.toList, u.oneCell' = true := by
  intro u hu
  obtain ⟨k, hk⟩ := List.mem_iff_getElem?.1 hu
  have hk' : new[k]? = some u := by simpa using hk
  have hlt : k < new.size := (Array.getElem?_eq_some_iff.1 hk').1
  have hi : k / z < c.len := by rw [Nat.div_lt_iff_lt_mul hz]; omega
  obtain ⟨e, he⟩ := SC.elem_of_lt hi
  have hj : k % z < e.length := by rw [hl _ e he]; exact Nat.mod_lt _ hz
  have := hr _ e (k % z) e[k % z] he (by simp [hj])
  rw [Nat.mul_comm, Nat.div_add_mod, getD_of hk'] at this
  exact rep_one this
theorem contents_ok (hG : Globs C F) (hR : HeapRel F β N H w) {d : DC} {v : Value} {k : Bool} {c : SC} {u : Hp} {r : List Nat} {z : Nat} (hd : RepD F β N H w v d) (hs : stat1 H k d = some (c, u, r)) (hv : c.isView = true) (hz : 0 < z)
    (hl : ∀ i e, c.elem i = some e → e.length = z) : ∃ (a : Option Addr) (cap : Nat) (new : Array Value), v = .slice a c.len cap ∧ (Builtin.firstCells z c.len v).run P w = .ok new w ∧ new.size = c.len * z ∧ c.len ≤ cap ∧
      ∀ (i : Nat) (e : List SC) (j : Nat) (x : SC), c.elem i = some e → e[j]? = some x → Rep (MV F β H w) nomem (new.getD (i * z + j) undef) x := by
  have hempty : c.len = 0 → ∀ (a : Option Addr) (cap : Nat), v = .slice a 0 cap → ∃ (a : Option Addr) (cap : Nat) (new : Array Value), v = .slice a c.len cap ∧ (Builtin.firstCells z c.len v).run P w = .ok new w ∧ new.size = c.len * z ∧ c.len ≤ cap ∧
      ∀ (i : Nat) (e : List SC) (j : Nat) (x : SC), c.elem i = some e → e[j]? = some x → Rep (MV F β H w) nomem (new.getD (i * z + j) undef) x := by
    rintro h0 a cap rfl
    refine ⟨a, cap, #[], by rw [h0], ?_, by simp [h0], by omega, fun i e j x he _ => ?_⟩
    · cases a <;> simp [Builtin.firstCells, h0, loadCells, loadCellsFrom]
    · have := SC.elem_lt he; omega
  cases d with
  | st c' =>
    simp [stat1] at hs; obtain ⟨rfl, _, _⟩ := hs
    have hd : Rep _ _ _ _ := hd
    cases hd with
    | lit => simp [SC.isView] at hv
    | empty a cap _ h0 => exact hempty h0 a cap rfl
    | view b o cap z' f _ hpos hz' hcap hl' hc hr =>
      obtain ⟨e0, he0⟩ := SC.elem_of_lt hpos
      have : z' = z := by rw [← hl' 0 e0 he0, hl 0 e0 he0]
      subst this
      refine ⟨_, cap, ((List.range (c'.len * z')).map f).toArray, rfl, ?_, by simp, hcap, fun i e j x he hx => ?_⟩
      · exact run_loadCells w _ _ f (fun j hj => by rw [addr_add]; exact MV_rd hG hR (hc j hj))
      · have hj : j < z' := by rw [← hl i e he]; exact (List.getElem?_eq_some_iff.1 hx).1
        have hlt : i * z' + j < c'.len * z' := by
          have : (i + 1) * z' ≤ c'.len * z' := Nat.mul_le_mul_right _ (SC.elem_lt he)
          rw [Nat.add_mul] at this; omega
        rw [getD_of (v := f (i * z' + j)) (by simp [hlt])]
        exact hr i e j x he hx
    | ref => simp [SC.isView] at hv
    | err => simp [SC.isView] at hv
    | num => simp [SC.isView] at hv
    | raw => simp [SC.isView] at hv
    | any => simp [SC.isView] at hv
    | fn => simp [SC.isView] at hv
  | nil =>
    simp [stat1] at hs; obtain ⟨rfl, _, _⟩ := hs
    have : v = .slice none 0 0 := hd
    exact hempty (by cases k <;> rfl) none 0 this
  | own id =>
    simp only [stat1] at hs
    split at hs
    · rename_i m z' c' e
      simp at hs
      obtain ⟨rfl, _, _⟩ := hs
      obtain ⟨_, ⟨hz', _, hl'⟩, hb⟩ := hR.rel id _ e
      rcases hd.2.2 _ z' c'.len e rfl with ⟨_, h0, h1⟩ | ⟨b, cap, arr, T, h1, h2, h3, h4⟩
      · exact hempty h0 none 0 h1
      · by_cases h0 : c'.len = 0
        · rw [h0] at h2; exact hempty h0 _ _ h2
        rcases hb with ⟨q, _⟩ | ⟨b', cap', q1, q2, arr', T', q3, q4, q5, q6, q7, q8, q9⟩
        · rw [h1] at q; cases q
        rw [h1] at q1; cases q1
        rw [h3] at q3; cases q3
        obtain ⟨e0, he0⟩ := SC.elem_of_lt (show 0 < c'.len by omega)
        have : z' = z := by rw [← hl' 0 e0 he0, hl 0 e0 he0]
        subst this
        have hle : c'.len * z' ≤ arr.size := by rw [q4]; exact Nat.mul_le_mul_right _ q7
        have hcap : cap = cap' := Nat.eq_of_mul_eq_mul_right hz' (by rw [← h4, q4])
        subst hcap
        subst h2
        refine ⟨_, cap, ((List.range (c'.len * z')).map fun k => arr.getD k undef).toArray, rfl, ?_, by simp, q7, fun i e j x he hx => ?_⟩
        · exact run_loadCells w _ _ _ (fun j hj => by rw [addr_add, Nat.zero_add]; exact rd_cells h3 (by omega))
        · have hj : j < z' := by rw [← hl i e he]; exact (List.getElem?_eq_some_iff.1 hx).1
          have hlt : i * z' + j < c'.len * z' := by
            have : (i + 1) * z' ≤ c'.len * z' := Nat.mul_le_mul_right _ (SC.elem_lt he)
            rw [Nat.add_mul] at this; omega
          rw [getD_of (v := arr.getD (i * z' + j) undef) (by simp [hlt])]
          exact q9 i e j x he hx
    · simp at hs; obtain ⟨rfl, _⟩ := hs; simp [SC.isView] at hv
    · cases hs
  | ptr id off => simp [stat1] at hs
  | rptr id z i off => simp [stat1] at hs
  | clo g id => simp [stat1] at hs
  | mp id => simp [stat1] at hs
theorem SC.cat_ok {c d r : SC} (h : c.cat d = some r) : c.isView = true ∧ d.isView = true ∧ r.isView = true ∧ r.len = c.len + d.len ∧ ∀ i e, r.elem i = some e → (i < c.len → c.elem i = some e) ∧ (¬ i < c.len → d.elem (i - c.len) = some e) := by
  unfold SC.cat at h
  split at h
  · rename_i xs ys
    simp at h; subst h
    refine ⟨rfl, rfl, rfl, by simp [SC.len], fun i e he => ?_⟩
    simp only [SC.elem, SC.len, List.getElem?_append] at he ⊢
    exact ⟨fun hi => by rw [if_pos hi] at he; exact he, fun hi => by rw [if_neg hi] at he; exact he⟩
  · rename_i xs ys
    simp at h; subst h
    refine ⟨rfl, rfl, rfl, by simp [SC.len], fun i e he => ?_⟩
    simp only [SC.elem, SC.len, List.getElem?_append] at he ⊢
    exact ⟨fun hi => by rw [if_pos hi] at he; exact he, fun hi => by rw [if_neg hi] at he; exact he⟩
  · cases h
theorem run_append {T T' ty e : TypeId} {tf : TypeInfo} {e' : TypeId} {z bytes : Nat} {zv : Value} (hT : P.underlying T = some (.slice e)) (hT' : P.underlying T' = some (.slice e')) (hE : P.info? e = some tf) (hz : tf.size = z) (hb : tf.bytes = bytes) (hzv : tf.zero = some zv)
    {base a : Option Addr} {sLen sCap n cap1 : Nat} {new old : Array Value} (hby : bytes ≤ 4096) (hlim : sLen + n ≤ 4294967296) :
    (sLen + n ≤ sCap → (Builtin.firstCells z n (.slice a n cap1)).run P w = .ok new w → ∀ w', (match base with | some a => storeCells (a.add (sLen * z)) new.toList | none => pure ()).run P w = .ok () w' →
      (Builtin.append_ #[T, T'] ty #[.slice base sLen sCap, .slice a n cap1]).run P w = .ok (.slice base (sLen + n) sCap) w') ∧
    (¬ sLen + n ≤ sCap → (Builtin.firstCells z sLen (.slice base sLen sCap)).run P w.drew = .ok old w.drew → (Builtin.firstCells z n (.slice a n cap1)).run P w.drew = .ok new w.drew →
      ∃ newCap rest, sLen + n ≤ newCap ∧ rest.size = (newCap - (sLen + n)) * zv.cells.size ∧ (Builtin.append_ #[T, T'] ty #[.slice base sLen sCap, .slice a n cap1]).run P w =
        .ok (.slice (some ⟨w.heap.size, 0, none⟩) (sLen + n) newCap) (w.drew.alloc (.cells (old ++ new ++ rest) e))) := by
  have hfit : ∀ (h : sCap < sLen + n), ¬ (Builtin.nextslicecap (sLen + n) sCap * bytes > 2 ^ 48) := by
    intro h
    have e : (2 : Nat) ^ 48 = 281474976710656 := by decide
    have : (sLen + n) * bytes ≤ 4294967296 * 4096 := Nat.mul_le_mul hlim hby
    have := growslice_fits h (bytes := bytes) (by omega)
    omega
  have hmax : ¬ (((sLen + n : Nat) : Int) > IntKind.i64.max) := by rw [IntKind.max_i64]; omega
  constructor
  · intro hroom hnew w' hst
    simp only [Builtin.append_]
    simp only [List.getElem?_toArray, List.getElem?_cons_zero, List.getElem?_cons_succ, Sem.run_bind, run_underlying hT, Result.andThen_ok, run_underlying hT', sizeOf, typeInfo, run_program, hE, hz, Sem.run_pure, Bool.false_eq_true, if_false, Builtin.lenOf, hroom, if_true, Bool.not_false, hnew]
    cases base with
    | none => simp at hst; subst hst; simp
    | some b => simp only at hst; simp [hst]
  · intro hroom hold hnew'
    obtain ⟨k, hk⟩ : ∃ k, Question.cut (.appendCap (sLen + n) sCap e) (w.tape w.drawn (.appendCap (sLen + n) sCap e)) = sLen + n + k := ⟨_, rfl⟩
    refine ⟨sLen + n + k, Builtin.zeroCells zv.cells (sLen + n + k - (sLen + n)), by omega, by simp [Builtin.zeroCells], ?_⟩
    have hq : (choose (.appendCap (sLen + n) sCap e)).run P w = .ok (sLen + n + k) w.drew := by
      rw [run_choose]
      simp only [Question.forced, Bool.false_eq_true, if_false, hk]
      rfl
    have hzr : (zeroValue e).run P w.drew = .ok zv w.drew := by simp [zeroValue, typeInfo, hE, hzv]
    simp only [Builtin.append_]
    simp only [List.getElem?_toArray, List.getElem?_cons_zero, List.getElem?_cons_succ, Sem.run_bind, run_underlying hT, Result.andThen_ok, run_underlying hT', sizeOf, typeInfo, run_program, hE, hz, Sem.run_pure, Bool.false_eq_true, if_false, Builtin.lenOf, hroom,
      hmax, false_and, hb, hfit (by omega), hq, run_askRoom, hold, hnew', Bool.not_false, if_true, hzr]
    simp [newRow]
    first | done | rfl
theorem Tr.del (id : Nat) : Tr F β N H w β N (updH H id none) w where
  below := Keep.refl _ _
  mem := fun b o v _ hs e => ⟨fun id' blk e' hb => by
    by_cases h : id' = id
    · subst h; rw [updH_same] at e'; cases e'
    · rw [updH_ne _ _ _ h] at e'; exact hs id' blk e' hb, e⟩
  used := fun _ h => h
  beta := fun _ _ => rfl
  keep := fun id' blk _ e => by
    by_cases h : id' = id
    · subst h; rw [updH_same] at e; cases e
    · rw [updH_ne _ _ _ h] at e; exact ⟨blk, e, blk.like_refl⟩
  size := fun _ _ _ _ arr _ _ _ _ _ _ h => ⟨arr, h, rfl⟩
  others := fun _ _ h => h
theorem HeapRel.del (hR : HeapRel F β N H w) (id : Nat) : HeapRel F β N (updH H id none) w := by
  have live : ∀ {k : Nat} {b0 : Blk}, updH H id none k = some b0 → H k = some b0 := by
    intro k b0 h
    by_cases hk : k = id
    · subst hk; rw [updH_same] at h; cases h
    · rw [updH_ne _ _ _ hk] at h; exact h
  exact hR.step (Tr.del id) (fun _ => False) (fun i blk _ e => ⟨live e, (hR.rel i blk (live e)).1, fun _ _ => rfl⟩) (fun _ _ h => h.elim) (fun i j b x y hi hj => hR.inj i j b x y (live hi) (live hj))
structure Cont (mv : Mem) (z : Nat) (c : SC) (arr : Array Value) : Prop where
  size : arr.size = c.len * z
  uni : ∀ i e, c.elem i = some e → e.length = z
  rep : ∀ (i : Nat) (e : List SC) (j : Nat) (x : SC), c.elem i = some e → e[j]? = some x → Rep mv nomem (arr.getD (i * z + j) undef) x
theorem Cont.cat {mv : Mem} {z : Nat} {c d r : SC} {a b rest : Array Value} (hc : Cont mv z c a) (hd : Cont mv z d b) (h : c.cat d = some r) :
    (∀ i e, r.elem i = some e → e.length = z) ∧ ∀ (i : Nat) (e : List SC) (j : Nat) (x : SC), r.elem i = some e → e[j]? = some x → Rep mv nomem ((a ++ b ++ rest).getD (i * z + j) undef) x := by
  obtain ⟨_, _, _, hlen, hel⟩ := SC.cat_ok h
  have huni : ∀ i e, r.elem i = some e → e.length = z := by
    intro i e he
    obtain ⟨h1, h2⟩ := hel i e he
    by_cases hi : i < c.len
    · exact hc.uni i e (h1 hi)
    · exact hd.uni _ e (h2 hi)
  refine ⟨huni, fun i e j x he hx => ?_⟩
  obtain ⟨h1, h2⟩ := hel i e he
  have hj : j < z := by rw [← huni i e he]; exact (List.getElem?_eq_some_iff.1 hx).1
  by_cases hi : i < c.len
  · have hlt : i * z + j < a.size := by
      rw [hc.size]
      have : (i + 1) * z ≤ c.len * z := Nat.mul_le_mul_right _ hi
      rw [Nat.add_mul] at this; omega
    rw [getD_congr (b := a) (l := i * z + j) (by rw [Array.append_assoc, Array.getElem?_append_left hlt])]
    exact hc.rep i e j x (h1 hi) hx
  · have hi2 := SC.elem_lt (h2 hi)
    have e1 : (i - c.len) * z + c.len * z = i * z := by rw [← Nat.add_mul]; congr 1; omega
    have hlt : (i - c.len) * z + j < b.size := by
      rw [hd.size]
      have : (i - c.len + 1) * z ≤ d.len * z := Nat.mul_le_mul_right _ hi2
      rw [Nat.add_mul] at this; omega
    rw [getD_congr (b := b) (l := (i - c.len) * z + j) (by
      rw [Array.getElem?_append_left (by simp; rw [hc.size]; omega), Array.getElem?_append_right (by rw [hc.size]; omega), hc.size]
      congr 1; omega)]
    exact hd.rep _ e j x (h2 hi) hx
theorem post_grow (hR : HeapRel F β N H w) (hf : ¬ N fid) {z : Nat} {c d r : SC} {a b rest : Array Value} {e : TypeId} {newCap : Nat} {m : Bool} {H0 : HF} {u : Hp} {R : List Nat} (hz : 0 < z) (hc : Cont (MV F β H w.drew) z c a) (hd : Cont (MV F β H w.drew) z d b) (h : c.cat d = some r)
    (hcap : r.len ≤ newCap) (hrest : rest.size = (newCap - r.len) * z) (h0 : ∀ H1, H1 = u.on H → H1 = updH H0 fid (some (.row m z r))) (ht : Tr F β N H w.drew β N H0 w.drew) (hR0 : HeapRel F β N H0 w.drew)
    (hK : K (one (.own fid)) u R) : Post F β N H fid K w (.slice (some ⟨w.heap.size, 0, none⟩) r.len newCap) (w.drew.alloc (.cells (a ++ b ++ rest) e)) := by
  obtain ⟨_, _, hv, hlen, _⟩ := SC.cat_ok h
  obtain ⟨huni, hrep⟩ := Cont.cat (rest := rest) hc hd h
  have hw0 : Below w.heap.size w w.drew := (Below.refl _ _).drew
  have td : Tr F β N H w β N H w.drew := Tr.grow hR hw0
  have hw1 : Below w.drew.heap.size w.drew (w.drew.alloc (.cells (a ++ b ++ rest) e)) := Below.alloc1 _ _
  have hbb : ∀ x, some w.heap.size = some x → w.drew.heap.size ≤ x := fun x hx => by cases hx; exact Nat.le_refl _
  have t2 := Tr.new (w' := w.drew.alloc (.cells (a ++ b ++ rest) e)) hR0 hw1 hf (some w.heap.size) hbb (.row m z r)
  have hsize : (a ++ b ++ rest).size = newCap * z := by
    have e1 : newCap * z = (newCap - r.len) * z + r.len * z := by rw [← Nat.add_mul]; congr 1; omega
    simp only [Array.size_append, hc.size, hd.size, hrest]
    rw [e1, hlen, Nat.add_mul]; omega
  have hat : (w.drew.alloc (.cells (a ++ b ++ rest) e)).heap[w.heap.size]? = some (.cells (a ++ b ++ rest) e) := alloc_at w.drew _
  have hblk : BlkRel F (setB β fid (some w.heap.size)) (Fw.setN N fid) (updH H0 fid (some (.row m z r))) (w.drew.alloc (.cells (a ++ b ++ rest) e)) fid (.row m z r) :=
    ⟨⟨hz, hv, huni⟩, .inr ⟨w.heap.size, newCap, by simp [setB], Fix.mine_new hR.below.size, _, e, hat, hsize, hz, hv, hcap, huni, fun i e' j x he hx => (hrep i e' j x he hx).mono (ht.trans t2).mv (Mem.le_refl _)⟩⟩
  have hH := HeapRel.new hR0 hw1 hf (some w.heap.size) hbb (.row m z r) hblk
  have hu := h0 _ rfl
  refine ⟨setB β fid (some w.heap.size), _, u, R, hK, by rw [hu]; exact (td.trans ht).trans t2, by rw [hu]; exact hH, ?_⟩
  rw [hu]
  refine repOne ⟨.inr rfl, rfl, fun blk0 z' n' hb hz' => ?_⟩
  rw [updH_same] at hb; cases hb; cases hz'
  exact .inr ⟨w.heap.size, newCap, _, e, by simp [setB], rfl, hat, hsize⟩
end
end Go.Fw
namespace Go.Fw
open Go.RowKit (Below)
section
variable {C : Ctx} {F : Fix} {β : Nat → Option Nat} {N : Nat → Prop} {H : HF} {fid : Nat} {K : OpK} {w w' : World} {P : Program}
theorem extract_get {arr : Array Value} {n k : Nat} (h : k < n) : (arr.extract 0 n)[k]? = arr[k]? := by
  rw [← Array.getElem?_toList, ← Array.getElem?_toList, Array.toList_extract]
  simp [h]
theorem post_room (hR : HeapRel F β N H w) (hf : ¬ N fid) {z id b cap : Nat} {c d r : SC} {arr new : Array Value} {T : TypeId} {m : Bool} {R : List Nat} (hb : H id = some (.row m z c)) (hβ : β id = some b) (harr : w.heap[b]? = some (.cells arr T))
    (hsz : arr.size = cap * z) (hd : Cont (MV F β H w) z d new) (h : c.cat d = some r) (hle : c.len + d.len ≤ cap)
    (hK : K (one (.own fid)) [(fid, some (.row m z r)), (id, none)] R) : Post F β N H fid K w (.slice (some ⟨b, 0, none⟩) r.len cap) (w.setRow b (spliceA arr (c.len * z) new.toList)) := by
  obtain ⟨_, _, hv, hlen, _⟩ := SC.cat_ok h
  obtain ⟨hn, ⟨hz, hv0, hl0⟩, hrow⟩ := hR.rel id _ hb
  rcases hrow with ⟨q, _⟩ | ⟨b', cap', q1, q2, arr', T', q3, q4, q5, q6, q7, q8, q9⟩
  · rw [hβ] at q; cases q
  rw [hβ] at q1; cases q1
  rw [harr] at q3; cases q3
  have hcap : cap = cap' := Nat.eq_of_mul_eq_mul_right hz (by rw [← hsz, q4])
  subst hcap
  have hnl : new.toList.length = d.len * z := by simpa using hd.size
  have hfit : c.len * z + d.len * z ≤ arr.size := by
    rw [hsz, ← Nat.add_mul]; exact Nat.mul_le_mul_right _ hle
  have hss : (spliceA arr (c.len * z) new.toList).size = arr.size := spliceA_size (by omega)
  have hidf : id ≠ fid := fun e => hf (e ▸ hn)
  have hat : (w.setRow b (spliceA arr (c.len * z) new.toList)).heap[b]? = some (.cells (spliceA arr (c.len * z) new.toList) T) := setRow_heap w b arr _ T (0, 0) harr
  have live : ∀ {k : Nat} {b0 : Blk}, k ≠ fid → updH (updH H id none) fid (some (.row m z r)) k = some b0 → k ≠ id ∧ H k = some b0 := by
    intro k b0 hk h
    rw [updH_ne _ _ _ hk] at h
    by_cases hki : k = id
    · subst hki; rw [updH_same] at h; cases h
    · rw [updH_ne _ _ _ hki] at h; exact ⟨hki, h⟩
  have hT : Tr F β N H w (setB β fid (some b)) (Fw.setN N fid) (updH (updH H id none) fid (some (.row m z r))) (w.setRow b (spliceA arr (c.len * z) new.toList)) := by
    refine ⟨Keep.setRow (hR.live_lt hb hβ).2 _, fun b' o v _ hs e => ⟨fun id' blk e' hb' => ?_, ?_⟩, fun _ h => .inl h, fun id' hn' => setB_ne _ _ _ fun e => hf (e ▸ hn'), fun id' blk' hn' e => ?_, fun _ _ _ b' arr0 T0 _ _ _ _ _ e => ?_, setRow_others ⟨_, _, harr⟩ _⟩
    · by_cases hk : id' = fid
      · subst hk
        rw [updH_same] at e'; cases e'
        rw [setB_same] at hb'; cases hb'
        obtain ⟨h1, h2⟩ := hs id _ hb hβ
        have : c.len * z ≤ r.len * z := Nat.mul_le_mul_right _ (by omega)
        exact ⟨h1, by omega⟩
      · rw [setB_ne _ _ _ hk] at hb'
        exact hs id' blk (live hk e').2 hb'
    · by_cases hk : b' = b
      · subst hk
        obtain ⟨_, h2⟩ := hs id _ hb hβ
        have hg := spliceA_get (arr := arr) (off := c.len * z) (vs := new.toList) (by omega) o
        rw [if_pos h2] at hg
        simp only [rd, World.cell?, harr] at e
        simp only [rd, World.cell?, hat]
        simpa [hg] using e
      · unfold rd at e ⊢
        rw [cell_setRow_other w b _ _ hk]; exact e
    · have hk : id' ≠ fid := fun e => hf (e ▸ hn')
      exact ⟨blk', (live hk e).2, blk'.like_refl⟩
    · by_cases hk : b' = b
      · subst hk
        rw [harr] at e; cases e
        exact ⟨_, hat, hss⟩
      · exact ⟨arr0, by rw [setRow_other w b b' _ hk]; exact e, rfl⟩
  have hc : Cont (MV F β H w) z c (arr.extract 0 (c.len * z)) := by
    refine ⟨by simp; omega, hl0, fun i e j x he hx => ?_⟩
    have hj : j < z := by rw [← hl0 i e he]; exact (List.getElem?_eq_some_iff.1 hx).1
    have hlt : i * z + j < c.len * z := by
      have : (i + 1) * z ≤ c.len * z := Nat.mul_le_mul_right _ (SC.elem_lt he)
      rw [Nat.add_mul] at this; omega
    rw [getD_congr (b := arr) (l := i * z + j) (extract_get hlt)]
    exact q9 i e j x he hx
  obtain ⟨huni, hrep⟩ := Cont.cat (rest := arr.extract (c.len * z + d.len * z) arr.size) hc hd h
  have hspl : spliceA arr (c.len * z) new.toList = arr.extract 0 (c.len * z) ++ new ++ arr.extract (c.len * z + d.len * z) arr.size := by
    apply Array.ext'
    have e1 : arr.size = arr.toList.length := by simp
    simp only [spliceA, Array.toList_append, Array.toList_extract, hnl, e1]
    rw [List.extract_eq_take_drop, List.extract_eq_take_drop]
    simp
    exact (List.take_of_length_le (by simp)).symm
  have hH : HeapRel F (setB β fid (some b)) (Fw.setN N fid) (updH (updH H id none) fid (some (.row m z r))) (w.setRow b (spliceA arr (c.len * z) new.toList)) := by
    refine hR.step hT (fun i => i = fid) (fun i blk hi e => ?_) (fun i blk hi e => ?_) (fun i j x y y' hi hj bi bj => ?_)
    · obtain ⟨h1, h2⟩ := live hi e
      refine ⟨h2, (hR.rel i blk h2).1, fun b1 hb1 => setRow_other w b b1 _ fun hbb => h1 ?_⟩
      subst hbb
      exact hR.inj i id b1 blk _ h2 hb hb1 hβ
    · subst hi
      rw [updH_same] at e; cases e
      refine ⟨.inr rfl, ⟨hz, hv, huni⟩, .inr ⟨b, cap, by simp [setB], q2, _, T, hat, by rw [hss, hsz], hz, hv, by omega, huni, fun i e' j x he hx => ?_⟩⟩
      have := (hrep i e' j x he hx).mono hT.mv (Mem.le_refl _)
      rwa [← hspl] at this
    · by_cases h1 : i = fid
      · by_cases h2 : j = fid
        · rw [h1, h2]
        · exfalso
          subst h1
          rw [setB_same] at bi; cases bi
          rw [setB_ne _ _ _ h2] at bj
          obtain ⟨h3, h4⟩ := live h2 hj
          exact h3 (hR.inj j id b _ _ h4 hb bj hβ)
      · by_cases h2 : j = fid
        · exfalso
          subst h2
          rw [setB_same] at bj; cases bj
          rw [setB_ne _ _ _ h1] at bi
          obtain ⟨h3, h4⟩ := live h1 hi
          exact h3 (hR.inj i id b _ _ h4 hb bi hβ)
        · rw [setB_ne _ _ _ h1] at bi
          rw [setB_ne _ _ _ h2] at bj
          exact hR.inj i j x _ _ (live h1 hi).2 (live h2 hj).2 bi bj
  refine ⟨_, _, _, R, hK, hT, hH, repOne ⟨.inr rfl, rfl, fun blk0 z' n' hb' hz' => ?_⟩⟩
  have : updH (updH H id none) fid (some (.row m z r)) fid = some blk0 := hb'
  rw [updH_same] at this; cases this; cases hz'
  exact .inr ⟨b, cap, _, T, by simp [setB], rfl, hat, by rw [hss, hsz]⟩
theorem post_nil (hf : ¬ N fid) {z : Nat} {r : SC} {m : Bool} {H0 : HF} {u : Hp} {R : List Nat} (hz : 0 < z) (hv : r.isView = true) (h0 : r.len = 0) (hu : ∀ i e, r.elem i = some e → e.length = z)
    (hH0 : ∀ H1, H1 = u.on H → H1 = updH H0 fid (some (.row m z r))) (ht : Tr F β N H w β N H0 w) (hR0 : HeapRel F β N H0 w) (hK : K (one (.own fid)) u R) : Post F β N H fid K w (.slice none 0 0) w := by
  have hw : Below w.heap.size w w := Below.refl _ _
  have t2 := Tr.new hR0 hw hf none (by simp) (.row m z r)
  have hH := HeapRel.new hR0 hw hf none (by simp) (.row m z r) ⟨⟨hz, hv, hu⟩, .inl ⟨by simp [setB], h0⟩⟩
  have hu1 := hH0 _ rfl
  refine ⟨setB β fid none, _, u, R, hK, by rw [hu1]; exact ht.trans t2, by rw [hu1]; exact hH, ?_⟩
  rw [hu1]
  refine repOne ⟨.inr rfl, rfl, fun blk0 z' n' hb hz' => ?_⟩
  rw [updH_same] at hb; cases hb; cases hz'
  exact .inl ⟨by simp [setB], h0, rfl⟩
theorem append_ok (hC : C.Ok) (hG : Globs C F) (hR : HeapRel F β N H w) (hf : ¬ N fid) {T T' ty : TypeId} {i' : TI} {e' : TypeId} {x y : DX} {v0 v1 : Value} (hi' : C.ti T' = some i') (hc' : i'.cls = .slice e')
    (hx : RepDX F β N H w v0 x) (hy : RepDX F β N H w v1 y) (h : appendA C fid T x y H K) :
    ∃ v w', (Builtin.append_ #[T, T'] ty #[v0, v1]).run C.P w = .ok v w' ∧ Post F β N H fid K w v w' := by
  obtain ⟨tf', d', zv', hT'⟩ := hC.get hi'
  have hd' := cls_slice (hT'.cls.trans hc')
  have hu' : C.P.underlying T' = some (.slice e') := by rw [hT'.und, hd']
  unfold appendA at h
  split at h
  · exact h.elim
  rename_i i hi
  obtain ⟨tf, d, zv, hT⟩ := hC.get hi
  split at h
  · rename_i e yc hcls
    have hd := cls_slice (hT.cls.trans hcls)
    have hu : C.P.underlying T = some (.slice e) := by rw [hT.und, hd]
    split at h
    · exact h.elim
    rename_i ie hie
    obtain ⟨ef, ed, ez, hE⟩ := hC.get hie
    split at h
    · exact h.elim
    rename_i hb
    obtain ⟨hb, hzl⟩ := ble_and hb
    obtain ⟨h1, h2⟩ := ble_and hb
    have hzl := Nat.eq_of_beq_eq_true hzl
    have hzc : ez.cells.size = ie.size := by rw [← hzl, ← hE.zeroc]; simp
    have h1 := Nat.le_of_ble_eq_true h1
    have h2 := Nat.le_of_ble_eq_true h2
    split at h
    · exact h.elim
    rename_i cy uy ry hst
    have hyd := hy.one_inv
    have hw0 : Below w.heap.size w w.drew := (Below.refl _ _).drew
    have td : Tr F β N H w β N H w.drew := Tr.grow hR hw0
    have hRd : HeapRel F β N H w.drew := hR.grow hw0
    have hydd := td.repD hR hyd
    split at h
    ·
      have hnil : v0 = .slice none 0 0 := hx.one_inv
      subst hnil
      split at h
      · rename_i c' hcat
        obtain ⟨hun, hlim, h⟩ := h
        obtain ⟨_, hvy, hv', hlen, hel⟩ := SC.cat_ok hcat
        have hl0 : (nilOf (C.isInts e)).len = 0 := by cases C.isInts e <;> rfl
        have huy : ∀ i e, cy.elem i = some e → e.length = ie.size := by
          intro i el he
          refine uni_elem hun i el ?_
          unfold SC.cat at hcat
          cases hn : C.isInts e <;> rw [hn] at hcat <;> simp only [nilOf] at hcat
          · cases cy <;> simp at hcat
            subst hcat; simpa [SC.elem] using he
          · cases cy <;> simp at hcat
            subst hcat; simpa [SC.elem] using he
        by_cases hn0 : cy.len = 0
        · obtain ⟨a, cap, new, rfl, hnew, hns, hcp, hrep⟩ := contents_ok hG hR (z := ie.size) hyd hst hvy h1 huy
          have hrun := (run_append (P := C.P) (w := w) (ty := ty) (base := none) (sLen := 0) (sCap := 0) (old := #[]) hu hu' hE.info hE.size hE.bytes hE.zero h2 (show 0 + cy.len ≤ 4294967296 by omega)).1 (by omega) hnew w rfl
          rw [hn0] at hrun
          refine ⟨_, w, by rw [hn0]; exact hrun, ?_⟩
          exact post_nil (u := [(fid, some (.row true ie.size c'))]) hf h1 hv' (by omega) (uni_elem hun) (fun _ h => h) Tr.refl hR h
        · obtain ⟨a, cap, new, rfl, hnew, hns, hcp, hrep⟩ := contents_ok hG hRd (z := ie.size) hydd hst hvy h1 huy
          obtain ⟨newCap, rest, g1, g2, hrun⟩ := (run_append (P := C.P) (w := w) (ty := ty) (base := none) (sLen := 0) (sCap := 0) (old := #[]) hu hu' hE.info hE.size hE.bytes hE.zero h2 (show 0 + cy.len ≤ 4294967296 by
            have : c'.len ≤ 4294967296 := hlim
            omega)).2 (by omega) (by simp [Builtin.firstCells]) hnew
          have hc'l : 0 + cy.len = c'.len := by omega
          rw [hc'l] at hrun g1 g2
          refine ⟨_, _, hrun, ?_⟩
          refine post_grow (u := [(fid, some (.row true ie.size c'))]) (c := nilOf (C.isInts e)) (d := cy) (a := #[]) (b := new) hR hf h1 ⟨by simp [hl0], fun i e he => ?_, fun i e j x he _ => ?_⟩ ⟨hns, huy, hrep⟩ hcat (by omega) ?_ (fun _ h => h) Tr.refl hRd h
          · have := SC.elem_lt he; omega
          · have := SC.elem_lt he; omega
          · rw [g2, hzc]
      · exact h.elim
    · rename_i id
      split at h
      · rename_i m z c hbk
        split at h
        · rename_i c' hzz hcat
          have hzz := Nat.eq_of_beq_eq_true hzz
          subst hzz
          obtain ⟨hun, hlim, h⟩ := h
          obtain ⟨hvc, hvy, hv', hlen, hel⟩ := SC.cat_ok hcat
          have huy := uni_elem hun
          obtain ⟨hn, h1c, hown⟩ := hx.one_inv
          have hxd : RepD F β N H w v0 (.own id) := hx.one_inv
          obtain ⟨_, ⟨hz, _, hl0⟩, hrow⟩ := hR.rel id _ hbk
          obtain ⟨us, hsts⟩ : ∃ us, stat1 H false (.own id) = some (c, us, [id]) := by simp [stat1, hbk]
          have hcatu : (∀ i e, c'.elem i = some e → e.length = ie.size) := by
            intro i e he
            obtain ⟨g1, g2⟩ := hel i e he
            by_cases hi : i < c.len
            · exact hl0 i e (g1 hi)
            · exact huy _ e (g2 hi)
          have hlim' : c.len + cy.len ≤ 4294967296 := by
            have : c'.len ≤ 4294967296 := hlim
            omega
          have hgrow : ∀ (base : Option Addr) (cap : Nat), v0 = .slice base c.len cap → ¬ c.len + cy.len ≤ cap → ∃ v w', (Builtin.append_ #[T, T'] ty #[v0, v1]).run C.P w = .ok v w' ∧ Post F β N H fid K w v w' := by
            rintro base cap rfl hgt
            obtain ⟨a, cap1, new, rfl, hnew, hns, hcp, hrep⟩ := contents_ok hG hRd (z := ie.size) hydd hst hvy h1 huy
            obtain ⟨a0, cap0, old, e0, hold, hos, hcp0, hrep0⟩ := contents_ok hG hRd (z := ie.size) (td.repD hR hxd) hsts hvc h1 hl0
            cases e0
            obtain ⟨newCap, rest, g1, g2, hrun⟩ := (run_append (P := C.P) (w := w) (ty := ty) (base := base) (sLen := c.len) (sCap := cap) hu hu' hE.info hE.size hE.bytes hE.zero h2 hlim').2 hgt hold hnew
            rw [← hlen] at hrun g1 g2
            refine ⟨_, _, hrun, ?_⟩
            refine post_grow (u := [(fid, some (.row m ie.size c')), (id, none)]) (H0 := updH H id none) hR hf h1 ⟨hos, hl0, hrep0⟩ ⟨hns, huy, hrep⟩ hcat g1 ?_ (fun _ h => h) (Tr.del id) (hRd.del id) h
            rw [g2, hzc]
          rcases hown _ ie.size c.len hbk rfl with ⟨b1, b2, rfl⟩ | ⟨b, cap, arr, T0, b1, rfl, b3, b4⟩
          · by_cases hn0 : cy.len = 0
            · obtain ⟨a, cap, new, rfl, hnew, hns, hcp, hrep⟩ := contents_ok hG hR (z := ie.size) hyd hst hvy h1 huy
              have hrun := (run_append (P := C.P) (w := w) (ty := ty) (base := none) (sLen := 0) (sCap := 0) (old := #[]) hu hu' hE.info hE.size hE.bytes hE.zero h2 (show 0 + cy.len ≤ 4294967296 by omega)).1 (by omega) hnew w rfl
              rw [hn0] at hrun
              refine ⟨_, w, by rw [hn0]; exact hrun, ?_⟩
              exact post_nil (u := [(fid, some (.row m ie.size c')), (id, none)]) (H0 := updH H id none) hf h1 hv' (by omega) hcatu (fun _ h => h) (Tr.del id) (hR.del id) h
            · exact hgrow none 0 (by rw [b2]) (by omega)
          · by_cases hroom : c.len + cy.len ≤ cap
            · obtain ⟨a, cap1, new, rfl, hnew, hns, hcp, hrep⟩ := contents_ok hG hR (z := ie.size) hyd hst hvy h1 huy
              have hone := elems_one h1 hns huy hrep
              have hfit : c.len * ie.size + new.toList.length ≤ arr.size := by
                have : new.toList.length = cy.len * ie.size := by simpa using hns
                rw [this, b4, ← Nat.add_mul]; exact Nat.mul_le_mul_right _ hroom
              have hsto := run_storeCells_at C.P b (c.len * ie.size) T0 new.toList 0 arr w b3 (by simpa using hfit) hone
              have hrun := (run_append (P := C.P) (w := w) (ty := ty) (base := some ⟨b, 0, none⟩) (sLen := c.len) (sCap := cap) (old := #[]) hu hu' hE.info hE.size hE.bytes hE.zero h2 hlim').1 hroom hnew (w.setRow b (spliceA arr (c.len * ie.size) new.toList)) (by
                simp only [addr_add, Nat.zero_add]
                simpa [spliceA] using hsto)
              rw [← hlen] at hrun
              exact ⟨_, _, hrun, post_room hR hf hbk b1 b3 b4 ⟨hns, huy, hrep⟩ hcat hroom h⟩
            · exact hgrow _ cap rfl hroom
        · exact h.elim
      · exact h.elim
    · exact h.elim
  · exact h.elim
theorem run_appendZ {T T' ty e : TypeId} {tf : TypeInfo} {kq kn : IntKind} {z bytes : Nat} {zv : Value} (hT : P.underlying T = some (.slice e)) (hT' : P.underlying T' = some (.int kn)) (hE : P.info? e = some tf) (hz : tf.size = z) (hb : tf.bytes = bytes) (hzv : tf.zero = some zv)
    {base : Option Addr} {sLen sCap n : Nat} {old : Array Value} (hby : bytes ≤ 4096) (hlim : sLen + n ≤ 4294967296) (hz0 : 0 < z) :
    (sLen + n ≤ sCap → ∀ w', (match base with | some a => storeCells (a.add (sLen * z)) (Builtin.zeroCells zv.cells n).toList | none => pure ()).run P w = .ok () w' →
      (Builtin.append_ #[T, T'] ty #[.slice base sLen sCap, .int kq n]).run P w = .ok (.slice base (sLen + n) sCap) w') ∧
    (¬ sLen + n ≤ sCap → (Builtin.firstCells z sLen (.slice base sLen sCap)).run P w.drew = .ok old w.drew →
      ∃ newCap rest, sLen + n ≤ newCap ∧ rest.size = (newCap - (sLen + n)) * zv.cells.size ∧ (Builtin.append_ #[T, T'] ty #[.slice base sLen sCap, .int kq n]).run P w =
        .ok (.slice (some ⟨w.heap.size, 0, none⟩) (sLen + n) newCap) (w.drew.alloc (.cells (old ++ Builtin.zeroCells zv.cells n ++ rest) e))) := by
  have hfit : ∀ (h : sCap < sLen + n), ¬ (Builtin.nextslicecap (sLen + n) sCap * bytes > 2 ^ 48) := by
    intro h
    have e : (2 : Nat) ^ 48 = 281474976710656 := by decide
    have : (sLen + n) * bytes ≤ 4294967296 * 4096 := Nat.mul_le_mul hlim hby
    have := growslice_fits h (bytes := bytes) (by omega)
    omega
  have hmax : ¬ (((sLen + n : Nat) : Int) > IntKind.i64.max) := by rw [IntKind.max_i64]; omega
  have hw : IntKind.i64.wrap (n : Int) = n := wrap_small (by omega) (by omega)
  have hneg : ¬ ((n : Int) < 0) := by omega
  have h48 : ¬ ((n : Int) * (bytes : Int) > 2 ^ 48) := by
    have e : (2 : Int) ^ 48 = 281474976710656 := by decide
    rw [e]
    have : (n : Int) * (bytes : Int) ≤ 4294967296 * 4096 := Int.mul_le_mul (by omega) (by omega) (by omega) (by omega)
    omega
  have hzr : ∀ w, (zeroValue e).run P w = .ok zv w := fun w => by simp [zeroValue, typeInfo, hE, hzv]
  have h0 : ∀ w : World, (if n * z = 0 then pure #[] else (do pure (Builtin.zeroCells (← zeroValue e).cells n) : Sem (Array Value))).run P w = .ok (Builtin.zeroCells zv.cells n) w := by
    intro w
    by_cases h : n = 0
    · subst h; simp [Builtin.zeroCells]
    · have : ¬ n * z = 0 := Nat.mul_ne_zero h (by omega)
      simp [this, hzr]
  constructor
  · intro hroom w' hst
    simp only [Builtin.append_]
    simp only [List.getElem?_toArray, List.getElem?_cons_zero, List.getElem?_cons_succ, Sem.run_bind, run_underlying hT, Result.andThen_ok, run_underlying hT', sizeOf, typeInfo, run_program, hE, hz, hb, Sem.run_pure, if_true, asInt, asIntOf, hw, hneg, if_false, h48, Int.toNat_natCast, hroom, Bool.not_true, Bool.false_eq_true]
    rw [show ((if n * z = 0 then pure #[] else zeroValue e >>= fun x => pure (Builtin.zeroCells x.cells n) : Sem (Array Value)).run P w) = .ok (Builtin.zeroCells zv.cells n) w from h0 w]
    cases base with
    | none => simp at hst; subst hst; simp
    | some b => simp only at hst; simp [hst]
  · intro hroom hold
    obtain ⟨k, hk⟩ : ∃ k, Question.cut (.appendCap (sLen + n) sCap e) (w.tape w.drawn (.appendCap (sLen + n) sCap e)) = sLen + n + k := ⟨_, rfl⟩
    refine ⟨sLen + n + k, Builtin.zeroCells zv.cells (sLen + n + k - (sLen + n)), by omega, by simp [Builtin.zeroCells], ?_⟩
    have hq : (choose (.appendCap (sLen + n) sCap e)).run P w = .ok (sLen + n + k) w.drew := by
      rw [run_choose]
      simp only [Question.forced, Bool.false_eq_true, if_false, hk]
      rfl
    simp only [Builtin.append_]
    simp only [List.getElem?_toArray, List.getElem?_cons_zero, List.getElem?_cons_succ, Sem.run_bind, run_underlying hT, Result.andThen_ok, run_underlying hT', sizeOf, typeInfo, run_program, hE, hz, hb, Sem.run_pure, if_true, asInt, asIntOf, hw, hneg, if_false, h48, Int.toNat_natCast, hroom, Bool.not_true, Bool.false_eq_true,
      hmax, false_and, hfit (by omega), hq, run_askRoom, hold]
    rw [show ((if n * z = 0 then pure #[] else zeroValue e >>= fun x => pure (Builtin.zeroCells x.cells n) : Sem (Array Value)).run P w.drew) = .ok (Builtin.zeroCells zv.cells n) w.drew from h0 w.drew]
    simp [hzr, newRow]
theorem zeroRow_ok (_hC : C.Ok) {e : TypeId} {ie : TI} {ef : TypeInfo} {ed : TypeDesc} {ez : Value} (hE : TOk C.P e ie ef ed ez) {n : Nat} {cy : SC} (_hz1 : 1 ≤ ie.size) (hzc : ez.cells.size = ie.size) (h : zeroRow C e ie n = some cy) (mv : Mem) :
    cy.isView = true ∧ cy.len = n ∧ Cont mv ie.size cy (Builtin.zeroCells ez.cells n) := by
  have key : ∀ (c : SC) (el : List SC), c.isView = true → c.len = n → (∀ i e, c.elem i = some e → e = el) → el.length = ie.size → (∀ (mv mr : Mem) (k : Nat) (x : SC), el[k]? = some x → ∃ v, ez.cells[k]? = some v ∧ Rep mv mr v x) →
      c.isView = true ∧ c.len = n ∧ Cont mv ie.size c (Builtin.zeroCells ez.cells n) := by
    intro c el cv cl ce cel cz
    refine ⟨cv, cl, by simp [Builtin.zeroCells, cl, hzc], fun i e he => by rw [ce i e he]; exact cel, fun i e j x he hx => ?_⟩
    have := ce i e he
    subst this
    have hj : j < ie.size := by rw [← cel]; exact (List.getElem?_eq_some_iff.1 hx).1
    obtain ⟨v, v1, v2⟩ := cz mv nomem j x hx
    have hi' : i < n := by rw [← cl]; exact SC.elem_lt he
    have hlt : i * ie.size + j < n * ie.size := by
      have : (i + 1) * ie.size ≤ n * ie.size := Nat.mul_le_mul_right _ (by omega)
      rw [Nat.add_mul] at this; omega
    have hm : (i * ie.size + j) % ie.size = j := by rw [Nat.mul_comm i, Nat.mul_add_mod, Nat.mod_eq_of_lt hj]
    rw [getD_of (v := v) (by
      simp only [Builtin.zeroCells, hzc, Array.getElem?_map, Array.getElem?_range, hlt, if_true, Option.map_some, hm]
      have hlt' : j < ez.cells.size := by omega
      rw [Array.getElem?_eq_getElem hlt'] at v1
      simp at v1
      simp [hlt', v1])]
    exact v2
  unfold zeroRow at h
  split at h
  · split at h
    · rename_i hzero
      simp at h; subst h
      have hzc' := hE.zeroc
      rw [hzero] at hzc'
      have hcells : ez.cells = #[.int .i64 0] := by
        apply Array.ext'
        cases hl : ez.cells.toList with
        | nil => rw [hl] at hzc'; simp at hzc'
        | cons v t =>
          rw [hl] at hzc'
          simp at hzc'
          obtain ⟨hv, rfl⟩ := hzc'
          unfold zcOf at hv
          split at hv
          · cases hv
          · cases hv; rfl
      refine key _ [.lit (.int .i64 0)] rfl (by simp [SC.len]) (fun i e he => ?_) (by rw [← hzc, hcells]; rfl) (fun mv mr k x hk => ?_)
      · simp [SC.elem, List.getElem?_replicate] at he
        obtain ⟨_, he⟩ := he; exact he.symm
      · cases k with
        | zero => simp at hk; subst hk; exact ⟨.int .i64 0, by rw [hcells]; rfl, .lit rfl⟩
        | succ k => simp at hk
    · cases h
  · split at h
    · rename_i zs hzs
      simp at h; subst h
      rw [← hE.zeroc] at hzs
      obtain ⟨b1, b2, b3⟩ := zerosS_ok hzs
      refine key _ zs rfl (by simp [SC.len]) (fun i e he => ?_) (by rw [b1]; simpa using hzc) (fun mv mr k x hk => by
        obtain ⟨v, v1, v2⟩ := b3 mv mr k x hk
        exact ⟨v, by simpa using v1, v2⟩)
      simp [SC.elem, List.getElem?_replicate] at he
      exact he.2.symm
    · cases h
theorem appendZ_ok (hC : C.Ok) (hG : Globs C F) (hR : HeapRel F β N H w) (hf : ¬ N fid) {T T' ty : TypeId} {i' : TI} {k' : IntKind} {x y : DX} {v0 v1 : Value} (hi' : C.ti T' = some i') (hc' : i'.cls = .int k')
    (hx : RepDX F β N H w v0 x) (hy : RepDX F β N H w v1 y) (h : appendZA C fid T x y H K) :
    ∃ v w', (Builtin.append_ #[T, T'] ty #[v0, v1]).run C.P w = .ok v w' ∧ Post F β N H fid K w v w' := by
  obtain ⟨tf', d', zv', hT'⟩ := hC.get hi'
  have hd' := cls_int (hT'.cls.trans hc')
  have hu' : C.P.underlying T' = some (.int k') := by rw [hT'.und, hd']
  unfold appendZA at h
  split at h
  · exact h.elim
  rename_i i hi
  obtain ⟨tf, d, zv, hT⟩ := hC.get hi
  split at h
  · rename_i e kq n hcls
    have hd := cls_slice (hT.cls.trans hcls)
    have hu : C.P.underlying T = some (.slice e) := by rw [hT.und, hd]
    obtain ⟨rfl, _⟩ := hy.one_inv.lit_inv
    split at h
    · exact h.elim
    rename_i ie hie
    obtain ⟨ef, ed, ez, hE⟩ := hC.get hie
    split at h
    · exact h.elim
    rename_i hb
    obtain ⟨hb, hzl⟩ := ble_and hb
    obtain ⟨h1, h2⟩ := ble_and hb
    have hzl := Nat.eq_of_beq_eq_true hzl
    have hzc : ez.cells.size = ie.size := by rw [← hzl, ← hE.zeroc]; simp
    have h1 := Nat.le_of_ble_eq_true h1
    have h2 := Nat.le_of_ble_eq_true h2
    obtain ⟨⟨hn0, hn1⟩, h⟩ := h
    split at h
    · exact h.elim
    rename_i cy hzr
    obtain ⟨m0, rfl⟩ : ∃ m : Nat, n = m := ⟨n.toNat, by omega⟩
    rw [Int.toNat_natCast] at hzr
    have hw0 : Below w.heap.size w w.drew := (Below.refl _ _).drew
    have td : Tr F β N H w β N H w.drew := Tr.grow hR hw0
    have hRd : HeapRel F β N H w.drew := hR.grow hw0
    obtain ⟨hvy, hly, hcd⟩ := zeroRow_ok hC hE h1 hzc hzr (MV F β H w.drew)
    obtain ⟨_, _, hc0⟩ := zeroRow_ok hC hE h1 hzc hzr (MV F β H w)
    split at h
    · rename_i id
      split at h
      · rename_i m z c hbk
        split at h
        · rename_i c' hzz hcat
          have hzz := Nat.eq_of_beq_eq_true hzz
          subst hzz
          obtain ⟨hlim, h⟩ := h
          obtain ⟨hvc, _, hv', hlen, hel⟩ := SC.cat_ok hcat
          obtain ⟨hn, h1c, hown⟩ := hx.one_inv
          have hxd : RepD F β N H w v0 (.own id) := hx.one_inv
          obtain ⟨_, ⟨hz, _, hl0⟩, hrow⟩ := hR.rel id _ hbk
          obtain ⟨us, hsts⟩ : ∃ us, stat1 H false (.own id) = some (c, us, [id]) := by simp [stat1, hbk]
          have hlim' : c.len + m0 ≤ 4294967296 := by
            have : c'.len ≤ 4294967296 := hlim
            omega
          have hcatu : (∀ i e, c'.elem i = some e → e.length = ie.size) := by
            intro i e he
            obtain ⟨g1, g2⟩ := hel i e he
            by_cases hi : i < c.len
            · exact hl0 i e (g1 hi)
            · exact hc0.uni _ e (g2 hi)
          have hgrow : ∀ (base : Option Addr) (cap : Nat), v0 = .slice base c.len cap → ¬ c.len + m0 ≤ cap → ∃ v w', (Builtin.append_ #[T, T'] ty #[v0, .int kq m0]).run C.P w = .ok v w' ∧ Post F β N H fid K w v w' := by
            rintro base cap rfl hgt
            obtain ⟨a0, cap0, old, e0, hold, hos, hcp0, hrep0⟩ := contents_ok hG hRd (z := ie.size) (td.repD hR hxd) hsts hvc h1 hl0
            cases e0
            obtain ⟨newCap, rest, g1, g2, hrun⟩ := (run_appendZ (P := C.P) (w := w) (ty := ty) (kq := kq) (base := base) (sLen := c.len) (sCap := cap) hu hu' hE.info hE.size hE.bytes hE.zero h2 hlim' h1).2 hgt hold
            have el : c.len + m0 = c'.len := by omega
            rw [el] at hrun g1 g2
            refine ⟨_, _, hrun, ?_⟩
            refine post_grow (u := [(fid, some (.row m ie.size c')), (id, none)]) (H0 := updH H id none) hR hf h1 ⟨hos, hl0, hrep0⟩ hcd hcat g1 ?_ (fun _ h => h) (Tr.del id) (hRd.del id) h
            rw [g2, hzc]
          rcases hown _ ie.size c.len hbk rfl with ⟨b1, b2, rfl⟩ | ⟨b, cap, arr, T0, b1, rfl, b3, b4⟩
          · by_cases hm0 : m0 = 0
            · subst hm0
              have hrun := (run_appendZ (P := C.P) (w := w) (ty := ty) (kq := kq) (base := none) (sLen := 0) (sCap := 0) (n := 0) (old := #[]) hu hu' hE.info hE.size hE.bytes hE.zero h2 (by omega) h1).1 (by omega) w rfl
              refine ⟨_, w, hrun, ?_⟩
              exact post_nil (u := [(fid, some (.row m ie.size c')), (id, none)]) (H0 := updH H id none) hf h1 hv' (by omega) hcatu (fun _ h => h) (Tr.del id) (hR.del id) h
            · exact hgrow none 0 (by rw [b2]) (by omega)
          · by_cases hroom : c.len + m0 ≤ cap
            · have hone : ∀ u ∈ (Builtin.zeroCells ez.cells m0).toList, u.oneCell' = true := elems_one h1 hc0.size hc0.uni hc0.rep
              have hfit : c.len * ie.size + (Builtin.zeroCells ez.cells m0).toList.length ≤ arr.size := by
                have : (Builtin.zeroCells ez.cells m0).toList.length = cy.len * ie.size := by simpa using hc0.size
                rw [this, b4, ← Nat.add_mul]; exact Nat.mul_le_mul_right _ (by omega)
              have hsto := run_storeCells_at C.P b (c.len * ie.size) T0 (Builtin.zeroCells ez.cells m0).toList 0 arr w b3 (by simpa using hfit) hone
              have hrun := (run_appendZ (P := C.P) (w := w) (ty := ty) (kq := kq) (base := some ⟨b, 0, none⟩) (sLen := c.len) (sCap := cap) (n := m0) (old := #[]) hu hu' hE.info hE.size hE.bytes hE.zero h2 hlim' h1).1 hroom (w.setRow b (spliceA arr (c.len * ie.size) (Builtin.zeroCells ez.cells m0).toList)) (by
                simp only [addr_add, Nat.zero_add]
                simpa [spliceA] using hsto)
              have el : c.len + m0 = c'.len := by omega
              rw [el] at hrun
              exact ⟨_, _, hrun, post_room hR hf hbk b1 b3 b4 hc0 hcat (by omega) h⟩
            · exact hgrow _ cap rfl hroom
        · exact h.elim
      · exact h.elim
    · exact h.elim
  · exact h.elim
theorem rep_lit' {mv mr : Mem} {v x : Value} (h : Rep mv mr v (.lit x)) : v = x := by
  cases h with
  | lit h => rfl
  | empty a cap hv h0 => cases hv
  | view b o cap z f hv => cases hv
theorem bytesOf_get : ∀ {es : List (List SC)} {l : List UInt8}, bytesOf es = some l → ∀ (i : Nat) (e : List SC), (SC.view es).elem i = some e → ∃ n, e = [.lit (.int .u8 n)]
  | [], _, _, i, e, he => by simp [SC.elem] at he
  | x :: es, l, h, i, e, he => by
    unfold bytesOf at h
    split at h
    · rename_i heq; cases heq
    · rename_i n r heq
      cases heq
      split at h
      · rename_i l' hl'
        cases i with
        | zero => simp [SC.elem] at he; exact ⟨n, he.symm⟩
        | succ i => exact bytesOf_get hl' i e (by simpa [SC.elem] using he)
      · cases h
    · cases h
theorem bytesOf_ints : ∀ {es : List (List SC)} {l : List UInt8}, bytesOf es = some l → ∃ ns : List Int, ns.length = es.length ∧ ∀ (k : Nat) (n : Int), ns[k]? = some n → (SC.view es).elem k = some [.lit (.int .u8 n)]
  | [], _, _ => ⟨[], rfl, fun k n h => by simp at h⟩
  | x :: es, l, h => by
    unfold bytesOf at h
    split at h
    · rename_i heq; cases heq
    · rename_i n r heq
      cases heq
      split at h
      · rename_i l' hl'
        obtain ⟨ns, h1, h2⟩ := bytesOf_ints hl'
        refine ⟨n :: ns, by simp [h1], fun k m hk => ?_⟩
        cases k with
        | zero => simp at hk; subst hk; rfl
        | succ k => simpa [SC.elem] using h2 k m (by simpa using hk)
      · cases h
    · cases h
theorem push_all : ∀ (ns : List Int) (acc : ByteArray), ns.foldl (fun r n => r.push (UInt8.ofNat n.toNat)) acc = ⟨acc.data ++ (ns.map fun n => UInt8.ofNat n.toNat).toArray⟩
  | [], acc => by simp
  | n :: ns, acc => by
    rw [List.foldl_cons, push_all ns]
    congr 1
    show acc.data.push _ ++ _ = _
    simp
theorem bytesOf_eq : ∀ {es : List (List SC)} {l : List UInt8} {ns : List Int}, bytesOf es = some l → ns.length = es.length → (∀ (k : Nat) (n : Int), ns[k]? = some n → (SC.view es).elem k = some [.lit (.int .u8 n)]) → ns.map (fun n => UInt8.ofNat n.toNat) = l
  | [], l, ns, h, hl, _ => by
    simp [bytesOf] at h
    subst h
    have : ns = [] := List.length_eq_zero_iff.1 (by simpa using hl)
    rw [this]; rfl
  | x :: es, l, [], h, hl, _ => by simp at hl
  | x :: es, l, m :: ns, h, hl, hn => by
    unfold bytesOf at h
    split at h
    · rename_i heq; cases heq
    · rename_i n r heq
      cases heq
      split at h
      · rename_i l' hl'
        simp at h
        subst h
        have h0 := hn 0 m rfl
        simp [SC.elem] at h0
        subst h0
        rw [List.map_cons, bytesOf_eq hl' (by simpa using hl) fun k n hk => by simpa [SC.elem] using hn (k + 1) n (by simpa using hk)]
      · cases h
    · cases h
theorem convA_ok (hC : C.Ok) (hG : Globs C F) (hR : HeapRel F β N H w) {S T : TypeId} {x : DX} {v0 : Value} (hx : RepDX F β N H w v0 x) (h : convA C S T x H K) :
    ∃ v, (convert S T v0).run C.P w = .ok v w ∧ Post F β N H fid K w v w := by
  unfold convA at h
  split at h
  · rename_i i j hi hj
    obtain ⟨tf, d, z, hT⟩ := hC.get hi
    obtain ⟨tf', d', z', hT'⟩ := hC.get hj
    split at h
    · rename_i k1 h1
      split at h
      case h_2 => exact h.elim
      rename_i k2 k3 n h2
      have hd := cls_int (hT.cls.trans h1)
      have hd' := cls_int (hT'.cls.trans h2)
      obtain ⟨rfl, _⟩ := hx.one_inv.lit_inv
      refine ⟨_, ?_, Post.pure hR h (repLit rfl)⟩
      simp [convert, hT.run_und, hT'.run_und, hd, hd', Conv.intToInt]
    · rename_i h1
      split at h
      case h_2 => exact h.elim
      rename_i s h2
      have hd := cls_str (hT.cls.trans h1)
      have hd' := cls_str (hT'.cls.trans h2)
      obtain ⟨rfl, _⟩ := hx.one_inv.lit_inv
      refine ⟨_, ?_, Post.pure hR h (repLit rfl)⟩
      simp [convert, hT.run_und, hT'.run_und, hd, hd']
    · rename_i e h1
      split at h
      case h_2 => exact h.elim
      rename_i dd h2
      have hd := cls_slice (hT.cls.trans h1)
      have hd' := cls_str (hT'.cls.trans h2)
      split at h
      · rename_i es uu rr hby hst
        split at h
        · rename_i l hl
          unfold isByte at hby
          split at hby
          · rename_i ie hie
            obtain ⟨ef, ed, ez, hE⟩ := hC.get hie
            split at hby
            · rename_i hcl
              have hz1 := Nat.eq_of_beq_eq_true hby
              have hed := cls_int (hE.cls.trans hcl)
              have hes : ∀ i e, (SC.view es).elem i = some e → e.length = 1 := fun i e he => by
                obtain ⟨n, rfl⟩ := bytesOf_get hl i e he
                rfl
              obtain ⟨a, cap, new, rfl, hrun, hsz, hcap, hrep⟩ := contents_ok hG hR (z := 1) hx.one_inv hst rfl (by decide) hes
              obtain ⟨ns, hns, hbs⟩ := bytesOf_ints hl
              have hnew : new.toList = ns.map (Value.int .u8) := by
                apply List.ext_getElem?
                intro k
                by_cases hk : k < es.length
                · obtain ⟨n, hn⟩ : ∃ n, ns[k]? = some n := ⟨ns[k]'(by omega), List.getElem?_eq_getElem (by omega)⟩
                  have he := hbs k n hn
                  have := hrep k _ 0 _ he rfl
                  simp only [Nat.mul_one, Nat.add_zero] at this
                  have hk2 : k < new.size := by rw [hsz]; simpa [SC.len] using hk
                  have hr2 := rep_lit' this
                  rw [Array.getD_eq_getD_getElem?, Array.getElem?_eq_getElem hk2, Option.getD_some] at hr2
                  rw [List.getElem?_map, hn, Array.getElem?_toList, Array.getElem?_eq_getElem hk2, hr2]
                  rfl
                · rw [List.getElem?_eq_none (by simp [hsz, SC.len]; omega), List.getElem?_eq_none (by simp; omega)]
              have e1 : (SC.view es).len = ns.length := by simp [SC.len]; omega
              refine ⟨_, ?_, Post.pure hR h (repLit rfl)⟩
              simp only [convert, Sem.run_bind, hT.run_und, hT'.run_und, hd, hd', Result.andThen_ok]
              cases a with
              | none =>
                have : new = #[] := by simpa [Builtin.firstCells] using hrun.symm
                rw [this] at hnew
                have hns0 : ns = [] := by cases ns with | nil => rfl | cons _ _ => simp at hnew
                subst hns0
                have hl0 : l = [] := by
                  have : es = [] := List.length_eq_zero_iff.1 (by simpa using hns.symm)
                  subst this
                  simpa [bytesOf] using hl.symm
                subst hl0
                simp [hE.run_und, hed, Conv.bytesToString]
                rfl
              | some a =>
                have hload : (loadCells a (SC.view es).len).run C.P w = .ok (ns.map (Value.int .u8)).toArray w := by
                  have : (ns.map (Value.int .u8)).toArray = new := by rw [← hnew]
                  rw [this]
                  simpa [Builtin.firstCells] using hrun
                have hb := bytesOf_eq hl hns hbs
                simp only [hE.run_und, hed, Result.andThen_ok]
                rw [e1] at hload ⊢
                rw [run_bytesToString w a ns.length cap ns hload, push_all, hb]
                simp
            · cases hby
          · cases hby
        · exact h.elim
      · exact h.elim
    · exact h.elim
  · exact h.elim
end
end Go.Fw
namespace Go.Fw
open Go.RowKit (Below)
section
variable {C : Ctx} {F : Fix} {β : Nat → Option Nat} {N : Nat → Prop} {H : HF} {fid : Nat} {K : OpK} {w w' : World} {P : Program}
theorem firsts_ok : ∀ {ds : List (Option DV)} {l : List SV} {u : Hp} {r : List Nat}, makeFuncA.firsts H ds = some (l, u, r) → (∀ p ∈ u, FreezeE H p) ∧ l.length = ds.length ∧
    ∀ (j : Nat) (g : Bool) (cs : List SC), l[j]? = some (g, cs) → ∃ x ue re, ds[j]? = some (some (.val x)) ∧ x.1 = g ∧ stat1L H [] x.2 = some (cs, ue, re) ∧ ∀ q ∈ ue, q ∈ u
  | [], l, u, r, h => by simp [makeFuncA.firsts] at h; obtain ⟨rfl, rfl, _⟩ := h; simp
  | d :: ds, l, u, r, h => by
    unfold makeFuncA.firsts at h
    split at h
    · rename_i heq; cases heq
    · rename_i x xs heq
      cases heq
      split at h
      · rename_i c u1 r1 h1
        split at h
        · rename_i cs u2 r2 h2
          simp at h
          obtain ⟨rfl, rfl, _⟩ := h
          obtain ⟨q1, q2, q3⟩ := firsts_ok h2
          refine ⟨fun p hp => ?_, by simp [q2], fun j g c' hj => ?_⟩
          · rcases List.mem_append.1 hp with hp | hp
            · exact stat1L_freeze h1 p hp
            · exact q1 p hp
          · cases j with
            | zero =>
              simp at hj
              obtain ⟨rfl, rfl⟩ := hj
              exact ⟨x, u1, r1, rfl, rfl, h1, fun q hq => List.mem_append.2 (.inl hq)⟩
            | succ j =>
              obtain ⟨x', ue, re, a1, a2, a3, a4⟩ := q3 j g c' (by simpa using hj)
              exact ⟨x', ue, re, by simpa using a1, a2, a3, fun q hq => List.mem_append.2 (.inr (a4 q hq))⟩
        · cases h
      · cases h
    · cases h
def CaptE (C : Ctx) (H : HF) (u : Hp) (d : Option DV) (cs : List SC) : Prop :=
  (∃ id, d = some (.val (false, [.ptr id 0])) ∧ (H id = some (.fbox cs) ∨ ((id, some (.fbox cs)) ∈ u ∧ ∃ t ds ue re, H id = some (.box t ds) ∧ stat1L H (C.kinds t) ds = some (cs, ue, re) ∧ ∀ q ∈ ue, q ∈ u))) ∨
  d = some (.val (false, [.st (.ref cs)]))
theorem CaptE.mono {u v : Hp} (h : ∀ q ∈ u, q ∈ v) {d : Option DV} {cs : List SC} (hc : CaptE C H u d cs) : CaptE C H v d cs := by
  rcases hc with ⟨id, h1, h2 | ⟨h2, t, ds, ue, re, h3, h4, h5⟩⟩ | h1
  · exact .inl ⟨id, h1, .inl h2⟩
  · exact .inl ⟨id, h1, .inr ⟨h _ h2, t, ds, ue, re, h3, h4, fun q hq => h _ (h5 q hq)⟩⟩
  · exact .inr h1
theorem capts_ok : ∀ {ds : List (Option DV)} {l : List (List SC)} {u : Hp} {r : List Nat}, makeFuncA.capts C H ds = some (l, u, r) → Give C H u ∧ l.length = ds.length ∧ ∀ (j : Nat) (cs : List SC), l[j]? = some cs → ∃ d, ds[j]? = some d ∧ CaptE C H u d cs
  | [], l, u, r, h => by simp [makeFuncA.capts] at h; obtain ⟨rfl, rfl, _⟩ := h; simp [Give]
  | d :: ds, l, u, r, h => by
    unfold makeFuncA.capts at h
    split at h
    · rename_i heq; cases heq
    · rename_i id xs heq
      cases heq
      split at h
      · rename_i cs hb
        split at h
        · rename_i l2 u2 r2 h2
          simp at h
          obtain ⟨rfl, rfl, _⟩ := h
          obtain ⟨q1, q2, q3⟩ := capts_ok h2
          refine ⟨q1, by simp [q2], fun j c' hj => ?_⟩
          cases j with
          | zero => simp at hj; subst hj; exact ⟨_, rfl, .inl ⟨id, rfl, .inl hb⟩⟩
          | succ j => simpa using q3 j c' (by simpa using hj)
        · cases h
      · rename_i t cs hb
        split at h
        · rename_i c u1 r1 h1
          split at h
          · rename_i l2 u2 r2 h2
            simp at h
            obtain ⟨rfl, rfl, _⟩ := h
            obtain ⟨q1, q2, q3⟩ := capts_ok h2
            have hg : Give C H ((id, some (.fbox c)) :: (u1 ++ u2)) := by
              intro p hp
              rcases List.mem_cons.1 hp with rfl | hp
              · exact .inr ⟨t, cs, c, u1, r1, hb, rfl, h1, fun q hq => List.mem_cons_of_mem _ (List.mem_append.2 (.inl hq))⟩
              · rcases List.mem_append.1 hp with hp | hp
                · exact .inl (stat1L_freeze h1 p hp)
                · rcases q1 p hp with h | ⟨t', cs', l', ul', rl', e1, e2, e3, e4⟩
                  · exact .inl h
                  · exact .inr ⟨t', cs', l', ul', rl', e1, e2, e3, fun q hq => List.mem_cons_of_mem _ (List.mem_append.2 (.inr (e4 q hq)))⟩
            refine ⟨hg, by simp [q2], fun j c' hj => ?_⟩
            cases j with
            | zero =>
              simp at hj; subst hj
              exact ⟨_, rfl, .inl ⟨id, rfl, .inr ⟨by simp, t, cs, u1, r1, hb, h1, fun q hq => List.mem_cons_of_mem _ (List.mem_append.2 (.inl hq))⟩⟩⟩
            | succ j =>
              obtain ⟨d', e1, e2⟩ := q3 j c' (by simpa using hj)
              exact ⟨d', by simpa using e1, e2.mono fun q hq => List.mem_cons_of_mem _ (List.mem_append.2 (.inr hq))⟩
          · cases h
        · cases h
      · cases h
    · rename_i cs xs heq
      cases heq
      split at h
      · rename_i l2 u2 r2 h2
        simp at h
        obtain ⟨rfl, rfl, _⟩ := h
        obtain ⟨q1, q2, q3⟩ := capts_ok h2
        refine ⟨q1, by simp [q2], fun j c' hj => ?_⟩
        cases j with
        | zero => simp at hj; subst hj; exact ⟨_, rfl, .inr rfl⟩
        | succ j => simpa using q3 j c' (by simpa using hj)
      · cases h
    · cases h
theorem fbox_ref (hR : HeapRel F β N H w) {id b : Nat} {cs : List SC} (hb : H id = some (.fbox cs)) (hβ : β id = some b) : Rep (MV F β H w) (MR F β H w) (.pointer (some ⟨b, 0, none⟩)) (.ref cs) := by
  obtain ⟨_, b', arr, T, h1, h2, h3, h4, h5⟩ := hR.rel id _ hb
  rw [hβ] at h1; cases h1
  refine .ref b 0 (fun k => arr.getD k undef) (fun k hk => ?_) h5
  rw [Nat.zero_add]
  unfold MR
  rw [if_pos h2, MV_base h2 (stable_fbox hR (Soft.refl H) hb hβ k)]
  exact rd_cells h3 (by omega)
theorem makeFunc_ok (hG : Globs C F) (hR : HeapRel F β N H w) {E : EF} {a : Act} (hE : EnvRel F β N H w E a) {f : FuncId} {first caps : Array Operand}
    (h : makeFuncA C f (first.toList.map (C.ev E)) (caps.toList.map (C.ev E)) H K) :
    ∃ v, (Instr.makeFunc (.func f) (first.map a.eval) (caps.map a.eval)).run P w = .ok v w ∧ Post F β N H fid K w v w := by
  unfold makeFuncA at h
  split at h
  · rename_i fs u1 r1 h1
    split at h
    · rename_i cs u2 r2 h2
      obtain ⟨p1, p2, p3⟩ := firsts_ok h1
      obtain ⟨q1, q2, q3⟩ := capts_ok h2
      have hg : Give C H (u1 ++ u2) := (Give.of_freeze p1).append q1
      have hH := hg.heap hR
      have hfr : ∀ {ue : Hp} {ks : List Bool} {ds : List DC} {l : List SC} {re : List Nat}, stat1L H ks ds = some (l, ue, re) → (∀ q ∈ ue, q ∈ u1 ++ u2) → ∀ p ∈ ue, ∃ z c, p.2 = some (.row false z c) ∧ (Hp.on (u1 ++ u2) H) p.1 = some (.row false z c) :=
        fun hs hq p hp => hg.frozen (hq p hp) (stat1L_freeze hs p hp)
      refine ⟨_, rfl, Post.still hR hg h (RepDV.setN (repOne ?_))⟩
      have hfirst : ∀ (j : Nat) (g : Bool) (c : List SC), fs[j]? = some (g, c) → RepB (MV F β (Hp.on (u1 ++ u2) H) w) (MR F β (Hp.on (u1 ++ u2) H) w) ((first.map a.eval).getD j undef) (g, c) := by
        intro j g c hj
        obtain ⟨x, ue, re, e1, e2, e3, e4⟩ := p3 j g c hj
        simp at e1
        obtain ⟨o, ho, hev⟩ := e1
        have hx : RepDX F β N H w (a.eval o) x := ev_ok hG hR hE hev
        have hget : (first.map a.eval).getD j undef = a.eval o := by simp [Array.getD_eq_getD_getElem?, ho]
        rw [hget]
        have hq : ∀ q ∈ ue, q ∈ u1 ++ u2 := fun q hq => List.mem_append.2 (.inl (e4 q hq))
        obtain ⟨xg, xc⟩ := x
        simp at e2; subst e2
        cases xg
        · obtain ⟨d, hd, hrd⟩ := hx
          simp at hd; subst hd
          have hl := stat1L_len e3
          obtain ⟨c0, rfl⟩ : ∃ c0, c = [c0] := List.length_eq_one_iff.1 (by simpa using hl)
          refine ⟨c0, rfl, ?_⟩
          exact stat1L_rep hR hg.soft (f := fun _ => a.eval o) (fun k d' hk => by
            cases k with
            | zero => simp at hk; subst hk; exact hrd
            | succ k => simp at hk) e3 (hfr e3 hq) 0 c0 rfl
        · obtain ⟨arr, h3, h4, h5⟩ := hx
          refine ⟨arr, h3, by rw [h4, stat1L_len e3], ?_⟩
          exact stat1L_rep hR hg.soft (f := fun k => arr.getD k undef) h5 e3 (hfr e3 hq)
      refine .fn _ _ (fun j => match (first.map a.eval).getD j undef with | .agg arr => arr | _ => #[]) (by simp [p2]) (by simp [q2]) (fun j c hj => ?_) (fun j c hj => ?_) (fun j c hj => ?_) (fun j c k x hj hk => ?_) (fun j c hj => ?_)
      · obtain ⟨c0, h3, h4⟩ := hfirst j _ _ hj
        simp at h3; subst h3; exact h4
      · obtain ⟨c0, h3, h4⟩ := hfirst j _ _ hj
        exact ⟨c0, h3⟩
      · obtain ⟨arr, h3, h4, _⟩ := hfirst j _ _ hj
        rw [h3]; exact ⟨rfl, h4⟩
      · obtain ⟨arr, h3, h4, h5⟩ := hfirst j _ _ hj
        rw [h3]; exact h5 k x hk
      · obtain ⟨d, e1, e2⟩ := q3 j c hj
        simp at e1
        obtain ⟨o, ho, hev⟩ := e1
        have hget : (caps.map a.eval).getD j undef = a.eval o := by simp [Array.getD_eq_getD_getElem?, ho]
        rw [hget]
        rcases e2 with ⟨id, rfl, e2⟩ | rfl
        · have hx : RepDX F β N H w (a.eval o) _ := ev_ok hG hR hE hev
          obtain ⟨hn, b, hbb, hp⟩ := hx.one_inv
          rw [hp]
          refine fbox_ref hH ?_ hbb
          rcases e2 with e2 | ⟨e2, t, ds, ue, re, e3, e4, e5⟩
          · rcases hg.soft id with h | ⟨_, _, _, h, _⟩ | ⟨_, _, _, h, _⟩
            · rw [h]; exact e2
            · rw [e2] at h; cases h
            · rw [e2] at h; cases h
          · exact hg.sealed (List.mem_append.2 (.inr e2)) e3 e4
        · have hx : RepDX F β N H w (a.eval o) _ := ev_ok hG hR hE hev
          exact Rep.mono (Soft.tr (N := N) hg.soft).mv (Soft.tr (N := N) hg.soft).mr hx.one_inv
    · exact h.elim
  · exact h.elim
end
end Go.Fw
namespace Go.Fw
open Go.RowKit (Below)
section
variable {C : Ctx} {F : Fix} {β : Nat → Option Nat} {N : Nat → Prop} {H : HF} {fid : Nat} {K : OpK} {w w' : World} {P : Program}
theorem MR_rd (hG : Globs C F) (hR : HeapRel F β N H w) : (MR F β H w).le (rd w) := by
  exact MR_rd0 hG hR
theorem stat_freeze {k : Bool} {d : DC} {c : SC} {u : Hp} {r : List Nat} (h : stat C H k d = some (c, u, r)) : ∀ p ∈ u, FreezeE H p := by
  cases d with
  | ptr id off =>
    simp only [stat] at h
    split at h
    · simp at h; obtain ⟨_, rfl, _⟩ := h; simp
    · split at h
      · rename_i l u1 r1 h1
        simp at h; obtain ⟨_, rfl, _⟩ := h
        exact stat1L_freeze h1
      · cases h
    · cases h
  | st c' => exact stat1_freeze (d := .st c') (k := k) h
  | nil => exact stat1_freeze (d := .nil) (k := k) h
  | own id => exact stat1_freeze (d := .own id) (k := k) h
  | rptr id z i off =>
    simp only [stat] at h
    split at h
    · split at h
      · split at h
        · rename_i h1
          simp at h; obtain ⟨_, rfl, _⟩ := h
          exact stat1L_freeze h1
        · cases h
      · cases h
    · split at h
      · simp at h; obtain ⟨_, rfl, _⟩ := h; simp
      · cases h
    · cases h
  | clo g id => simp [stat, stat1] at h
  | mp id => simp [stat, stat1] at h
theorem ref_cells {cs : List SC} {b off : Nat} {mv : Mem} {arr : Array Value} {T : TypeId} (h3 : w.heap[b]? = some (.cells arr T)) (h4 : arr.size = cs.length) (h5 : ∀ (k : Nat) (x : SC), cs[k]? = some x → Rep mv (rd w) (arr.getD k undef) x) :
    Rep mv (rd w) (.pointer (some ⟨b, off, none⟩)) (.ref (cs.drop off)) := by
  refine .ref b off (fun k => arr.getD (off + k) undef) (fun k hk => rd_cells h3 (by simp at hk; omega)) (fun k x hx => ?_)
  rw [List.getElem?_drop] at hx
  exact h5 _ x hx
theorem elem_ref {cs : List SC} {b o off : Nat} {mv : Mem} {arr : Array Value} {T : TypeId} (h3 : w.heap[b]? = some (.cells arr T)) (h4 : o + cs.length ≤ arr.size) (h5 : ∀ (k : Nat) (x : SC), cs[k]? = some x → Rep mv (rd w) (arr.getD (o + k) undef) x) :
    Rep mv (rd w) (.pointer (some ⟨b, o + off, none⟩)) (.ref (cs.drop off)) := by
  refine .ref b (o + off) (fun k => arr.getD (o + off + k) undef) (fun k hk => rd_cells h3 (by simp at hk; omega)) (fun k x hx => ?_)
  rw [List.getElem?_drop] at hx
  rw [Nat.add_assoc]
  exact h5 _ x hx
theorem stat_rep (hG : Globs C F) (hR : HeapRel F β N H w) {u0 : Hp} (hg : Give C H u0) {v : Value} {k : Bool} {d : DC} {c : SC} {u : Hp} {r : List Nat} (hd : RepD F β N H w v d) (h : stat C H k d = some (c, u, r)) (hu : ∀ p ∈ u, p ∈ u0) :
    Rep (MV F β (u0.on H) w) (rd w) v c := by
  have hH := hg.heap hR
  have hfr : ∀ p ∈ u, ∃ z c, p.2 = some (.row false z c) ∧ (u0.on H) p.1 = some (.row false z c) := fun p hp => hg.frozen (hu p hp) (stat_freeze h p hp)
  have base : stat1 H k d = some (c, u, r) → Rep (MV F β (u0.on H) w) (rd w) v c := fun h1 => (stat1_rep hR hg.soft hd h1 hfr).mono (Mem.le_refl _) (MR_rd hG hH)
  cases d with
  | ptr id off =>
    obtain ⟨hn, b, hbb, rfl⟩ := hd
    simp only [stat] at h
    split at h
    · rename_i cs hb
      simp at h; obtain ⟨rfl, _, _⟩ := h
      obtain ⟨_, b', arr, T, h1, h2, h3, h4, h5⟩ := hR.rel id _ hb
      rw [hbb] at h1; cases h1
      exact ref_cells h3 h4 fun k x hx => (h5 k x hx).mono (Soft.tr (N := N) hg.soft).mv (Mem.le_trans (MR_rd hG hR) (Mem.le_refl _))
    · rename_i t cs hb
      split at h
      · rename_i l u1 r1 hs
        simp at h; obtain ⟨rfl, rfl, _⟩ := h
        obtain ⟨_, b', arr, T, h1, h2, h3, h4, h5⟩ := hR.rel id _ hb
        rw [hbb] at h1; cases h1
        have := stat1L_rep hR hg.soft (f := fun k => arr.getD k undef) h5 hs hfr
        exact ref_cells h3 (by rw [h4, stat1L_len hs]) fun k x hx => (this k x hx).mono (Mem.le_refl _) (MR_rd hG hH)
      · cases h
    · cases h
  | st c' => exact base h
  | nil => exact base h
  | own id => exact base h
  | clo g id => exact base h
  | mp id => exact base h
  | rptr id z i off =>
    obtain ⟨hn, b, hbb, rfl⟩ := hd
    simp only [stat] at h
    split at h
    · rename_i z' l hb
      split at h
      · rename_i e hzz hel
        have hzz := Nat.eq_of_beq_eq_true hzz
        subst hzz
        split at h
        · rename_i cs u1 r1 hs
          simp at h; obtain ⟨rfl, rfl, _⟩ := h
          obtain ⟨_, ⟨hz, hl⟩, q | ⟨b', cap, arr, T, q1, q2, q3, q4, q5, q6⟩⟩ := hR.rel id _ hb
          · rw [hbb] at q; cases q.1
          · rw [hbb] at q1; cases q1
            have hlen := hl i e hel
            have hi : i < l.length := (List.getElem?_eq_some_iff.1 hel).1
            have := stat1L_rep hR hg.soft (f := fun k => arr.getD (i * z + k) undef) (fun k d hk => q6 i e k d hel hk) hs hfr
            refine elem_ref q3 ?_ fun k x hx => (this k x hx).mono (Mem.le_refl _) (MR_rd hG hH)
            rw [stat1L_len hs, hlen, q4]
            have : (i + 1) * z ≤ cap * z := Nat.mul_le_mul_right _ (by omega)
            rw [Nat.add_mul] at this; omega
        · cases h
      · cases h
    · rename_i m z' c0 hb
      split at h
      · rename_i e hzz hel
        have hzz := Nat.eq_of_beq_eq_true hzz
        subst hzz
        simp at h; obtain ⟨rfl, _, _⟩ := h
        obtain ⟨_, ⟨hz, hv, hl⟩, q | ⟨b', cap, q1, q2, arr, T, q3, q4, q5, q6, q7, q8, q9⟩⟩ := hR.rel id _ hb
        · rw [hbb] at q; cases q.1
        · rw [hbb] at q1; cases q1
          have hlen := hl i e hel
          have hi := SC.elem_lt hel
          refine elem_ref q3 ?_ fun k x hx => (q9 i e k x hel hx).mono (Soft.tr (N := N) hg.soft).mv (nomem_le _)
          rw [hlen, q4]
          have : (i + 1) * z ≤ cap * z := Nat.mul_le_mul_right _ (by omega)
          rw [Nat.add_mul] at this; omega
      · cases h
    · cases h
theorem statL_ok : ∀ {ks : List Bool} {ds : List DC} {l : List SC} {u : Hp} {r : List Nat}, statL C H ks ds = some (l, u, r) → (∀ p ∈ u, FreezeE H p) ∧ l.length = ds.length ∧
    ∀ (k : Nat) (c : SC), l[k]? = some c → ∃ d kb ue re, ds[k]? = some d ∧ stat C H kb d = some (c, ue, re) ∧ ∀ q ∈ ue, q ∈ u
  | ks, [], l, u, r, h => by simp [statL] at h; obtain ⟨rfl, rfl, _⟩ := h; simp
  | ks, d :: ds, l, u, r, h => by
    simp only [statL] at h
    split at h
    · rename_i c u1 r1 h1
      split at h
      · rename_i cs u2 r2 h2
        simp at h
        obtain ⟨rfl, rfl, _⟩ := h
        obtain ⟨q1, q2, q3⟩ := statL_ok h2
        refine ⟨fun p hp => ?_, by simp [q2], fun k c' hk => ?_⟩
        · rcases List.mem_append.1 hp with hp | hp
          · exact stat_freeze h1 p hp
          · exact q1 p hp
        · cases k with
          | zero => simp at hk; subst hk; exact ⟨d, _, u1, r1, rfl, h1, fun q hq => List.mem_append.2 (.inl hq)⟩
          | succ k =>
            obtain ⟨d', kb, ue, re, a1, a2, a3⟩ := q3 k c' (by simpa using hk)
            exact ⟨d', kb, ue, re, by simpa using a1, a2, fun q hq => List.mem_append.2 (.inr (a3 q hq))⟩
      · cases h
    · cases h
theorem statA_ok : ∀ {ts : List TypeId} {xs : List DX} {l : List SV} {u : Hp} {r : List Nat}, statA C H ts xs = some (l, u, r) → (∀ p ∈ u, FreezeE H p) ∧ l.length = xs.length ∧
    ∀ (k : Nat) (g : Bool) (cs : List SC), l[k]? = some (g, cs) → ∃ x ks ue re, xs[k]? = some x ∧ x.1 = g ∧ statL C H ks x.2 = some (cs, ue, re) ∧ ∀ q ∈ ue, q ∈ u
  | ts, [], l, u, r, h => by simp [statA] at h; obtain ⟨rfl, rfl, _⟩ := h; simp
  | ts, x :: xs, l, u, r, h => by
    simp only [statA] at h
    split at h
    · rename_i c u1 r1 h1
      split at h
      · rename_i cs u2 r2 h2
        simp at h
        obtain ⟨rfl, rfl, _⟩ := h
        obtain ⟨q1, q2, q3⟩ := statA_ok h2
        obtain ⟨p1, _, _⟩ := statL_ok h1
        refine ⟨fun p hp => ?_, by simp [q2], fun k g c' hk => ?_⟩
        · rcases List.mem_append.1 hp with hp | hp
          · exact p1 p hp
          · exact q1 p hp
        · cases k with
          | zero =>
            simp at hk; obtain ⟨rfl, rfl⟩ := hk
            exact ⟨x, _, u1, r1, rfl, rfl, h1, fun q hq => List.mem_append.2 (.inl hq)⟩
          | succ k =>
            obtain ⟨d', kb, ue, re, a1, a2, a3, a4⟩ := q3 k g c' (by simpa using hk)
            exact ⟨d', kb, ue, re, by simpa using a1, a2, a3, fun q hq => List.mem_append.2 (.inr (a4 q hq))⟩
      · cases h
    · cases h
theorem statX_rep (hG : Globs C F) (hR : HeapRel F β N H w) {u0 : Hp} (hg : Give C H u0) {v : Value} {x : DX} {ks : List Bool} {cs : List SC} {u : Hp} {r : List Nat} (hx : RepDX F β N H w v x) (h : statL C H ks x.2 = some (cs, u, r)) (hu : ∀ p ∈ u, p ∈ u0) :
    RepB (MV F β (u0.on H) w) (rd w) v (x.1, cs) := by
  obtain ⟨q1, q2, q3⟩ := statL_ok h
  obtain ⟨g, ds⟩ := x
  cases g
  · obtain ⟨d, hd, hrd⟩ := hx
    simp at hd; subst hd
    obtain ⟨c0, rfl⟩ : ∃ c0, cs = [c0] := List.length_eq_one_iff.1 (by simpa using q2)
    obtain ⟨d', kb, ue, re, a1, a2, a3⟩ := q3 0 c0 rfl
    simp at a1; subst a1
    exact ⟨c0, rfl, stat_rep hG hR hg hrd a2 fun q hq => hu q (a3 q hq)⟩
  · obtain ⟨arr, h3, h4, h5⟩ := hx
    refine ⟨arr, h3, by rw [h4, q2], fun k c hk => ?_⟩
    obtain ⟨d', kb, ue, re, a1, a2, a3⟩ := q3 k c hk
    exact stat_rep hG hR hg (h5 k d' a1) a2 fun q hq => hu q (a3 q hq)
theorem vals_ok : ∀ {ds : List (Option DV)} {xs : List DX}, vals ds = some xs → xs.length = ds.length ∧ ∀ (k : Nat) (x : DX), xs[k]? = some x → ds[k]? = some (some (.val x))
  | [], xs, h => by simp [vals] at h; subst h; simp
  | d :: ds, xs, h => by
    unfold vals at h
    split at h
    · rename_i heq; cases heq
    · rename_i x r heq
      cases heq
      split at h
      · rename_i l hl
        simp at h; subst h
        obtain ⟨h1, h2⟩ := vals_ok hl
        refine ⟨by simp [h1], fun k x' hk => ?_⟩
        cases k with
        | zero => simp at hk; subst hk; rfl
        | succ k => simpa using h2 k x' (by simpa using hk)
      · cases h
    · cases h
theorem RepL.append {mv mr : Mem} {a b : Array Value} {x y : List SV} (h : RepL mv mr a x) (k : RepL mv mr b y) : RepL mv mr (a ++ b) (x ++ y) := by
  refine ⟨by simp [h.1, k.1], fun j z hz => ?_⟩
  by_cases hj : j < x.length
  · rw [List.getElem?_append_left hj] at hz
    rw [getD_congr (b := a) (l := j) (by rw [Array.getElem?_append_left (by rw [h.1]; exact hj)])]
    exact h.2 j z hz
  · rw [List.getElem?_append_right (by omega)] at hz
    rw [getD_congr (b := b) (l := j - x.length) (by rw [Array.getElem?_append_right (by rw [h.1]; omega), h.1])]
    exact k.2 _ z hz
theorem GlobOK.later (hG : Globs C F) (hR : HeapRel F β N H w) : GlobOK C.gl (rd w) := by
  intro g cs hm
  obtain ⟨h0, h9⟩ := hG.ok g cs hm
  refine ⟨fun k x hx => ?_, fun hpos => ?_⟩
  · obtain ⟨v, h1, h2⟩ := h0 k x hx
    exact ⟨v, hR.below.rd (not_mine h1 (hG.nown g cs hm (Nat.lt_of_le_of_lt (Nat.zero_le _) (List.getElem?_eq_some_iff.1 hx).1))) h1, h2⟩
  · obtain ⟨v, h1, _⟩ := h0 0 cs[0] (by simp [hpos])
    have e : rd w g cs.length = rd F.w0 g cs.length := World.cell?_of_block (w := F.w0) (a := ⟨g, cs.length, none⟩) (hR.below.block g (World.block_lt_of_cell? _ _ h1) (not_mine h1 (hG.nown g cs hm hpos)))
    rw [e]
    exact h9 hpos
theorem after_le (hR : HeapRel F β N H w) (hw : Below w.heap.size w w') : (mvAfter (MV F β H w) w.heap.size w').le (MV F β H w') := by
  intro b o v h
  unfold mvAfter at h
  split at h
  · rename_i hb
    have hbase : F.mine b := Fix.mine_new (Nat.le_trans hR.below.size hb)
    rw [MV_base hbase]
    · exact h
    · intro id blk e hbb
      have := (hR.live_lt e hbb).1
      omega
  · exact (Tr.grow hR hw).mv b o v h
theorem RepB.dyn {x : SV} {v : Value} (h : RepB (MV F β H w) (MR F β H w) v x) : RepDX F β N H w v (dyn x) := by
  obtain ⟨g, cs⟩ := x
  cases g
  · obtain ⟨c, hc, hr⟩ := h
    simp at hc; subst hc
    exact ⟨.st c, rfl, hr⟩
  · obtain ⟨arr, h1, h2, h3⟩ := h
    refine ⟨arr, h1, by simpa [Fw.dyn] using h2, fun k c hk => ?_⟩
    simp only [Fw.dyn, List.getElem?_map] at hk
    cases hc : cs[k]? with
    | none => simp [hc] at hk
    | some x => simp [hc] at hk; subst hk; exact h3 k x hc
theorem stat1L_none : ∀ {ks : List Bool} {ds : List DC} {l : List SC} {u : Hp}, stat1L H ks ds = some (l, u, []) → u = []
  | _, [], _, _, h => by simp [stat1L] at h; exact h.2
  | ks, d :: ds, l, u, h => by
    simp only [stat1L] at h
    split at h
    · rename_i c u1 r1 h1
      split at h
      · rename_i cs u2 r2 h2
        simp only [Option.some.injEq, Prod.mk.injEq, List.append_eq_nil_iff] at h
        obtain ⟨_, rfl, rfl, rfl⟩ := h
        rw [stat1L_none h2, List.append_nil]
        cases d with
        | own id =>
          simp only [stat1] at h1
          split at h1 <;> simp at h1
        | st => simp [stat1] at h1; exact h1.2
        | nil => simp [stat1] at h1; exact h1.2
        | ptr => simp [stat1] at h1
        | rptr => simp [stat1] at h1
        | clo => simp [stat1] at h1
        | mp => simp [stat1] at h1
      · cases h
    · cases h
theorem stat_own {k : Bool} {d : DC} {c c0 : SC} {id id' z0 : Nat} (h : stat C H k d = some (c, [(id, some (.row false z0 c0))], [id'])) : d = .own id ∧ H id = some (.row true z0 c0) ∧ c = c0 := by
  cases d with
  | st => simp [stat, stat1] at h
  | nil => simp [stat, stat1] at h
  | clo => simp [stat, stat1] at h
  | mp => simp [stat, stat1] at h
  | rptr =>
    simp only [stat] at h
    split at h
    · split at h
      · split at h
        · rename_i l u r h1
          simp only [Option.some.injEq, Prod.mk.injEq, List.cons.injEq] at h
          obtain ⟨_, rfl, _, rfl⟩ := h
          have := stat1L_none h1
          cases this
        · cases h
      · cases h
    · split at h
      · simp at h
      · cases h
    · cases h
  | own i =>
    simp only [stat, stat1] at h
    split at h
    · rename_i m z1 c1 e
      simp only [Option.some.injEq, Prod.mk.injEq, List.cons.injEq, and_true] at h
      obtain ⟨rfl, h2, rfl⟩ := h
      cases m
      · simp at h2
      · simp at h2
        obtain ⟨rfl, rfl, rfl⟩ := h2
        exact ⟨rfl, e, rfl⟩
    · simp at h
    · cases h
  | ptr i off =>
    simp only [stat] at h
    split at h
    · simp at h
    · split at h
      · rename_i l u r h1
        simp only [Option.some.injEq, Prod.mk.injEq, List.cons.injEq] at h
        obtain ⟨_, rfl, _, rfl⟩ := h
        have := stat1L_none h1
        cases this
      · cases h
    · cases h
theorem callI_ok (hG : Globs C F) (hR : HeapRel F β N H w) (hf : ¬ N fid) {E : EF} {a : Act} (hE : EnvRel F β N H w E a) {o : Oper} {c : Call} {fo : Operand} (ho : o.op = .call c) (hc : c.callee = .value fo) {Q : Exit → Act → World → Prop}
    {f : FuncId} {first : List SV} {caps : List (List SC)} {xs : List DX} {l : List SV} {u : Hp} {rs : List Nat} {r : Res} {ats : List TypeId} (hfv : C.ev E fo = some (.val (false, [.st (.fn f first caps)]))) (hvals : vals (c.args.toList.map (C.ev E)) = some xs)
    (hst : statA C H ats xs = some (l, u, rs)) (hsat : SatI C.P f (first ++ l ++ caps.map fun cs => (false, [.ref cs])) r) (hK : resK fid u rs K r) :
    o.wp C.P a w (fun a' w' => ∃ v, a' = a.put o.dst v ∧ Post F β N H fid K w v w') Q := by
  cases r with
  | one => exact hsat.elim
  | tup => exact hsat.elim
  | own => exact hsat.elim
  | mix => exact hsat.elim
  | upd z c' =>
  obtain ⟨c0, hargs, hfo, hv', hlen, huni, hnil, hrow⟩ := hsat
  simp only [resK] at hK
  split at hK
  case h_2 => exact hK.elim
  rename_i id z0 c1 id'
  split at hK
  case h_2 => exact hK.elim
  rename_i hbb
  obtain ⟨hb1, hb2⟩ := ble_and hbb
  have hb1 := Nat.eq_of_beq_eq_true hb1
  have hb2 := Nat.eq_of_beq_eq_true hb2
  subst hb1 hb2
  obtain ⟨q1, q2, q3⟩ := statA_ok hst
  obtain ⟨v1, v2⟩ := vals_ok hvals
  cases xs with
  | nil => simp [statA] at hst
  | cons x xs =>
  simp only [statA] at hst
  split at hst
  case h_2 => cases hst
  rename_i cc u1 r1 h1
  split at hst
  case h_2 => cases hst
  rename_i cs u2 r2 h2
  simp only [Option.some.injEq, Prod.mk.injEq] at hst
  obtain ⟨rfl, hu, hr⟩ := hst
  have hl := congrArg List.length hargs
  simp only [List.length_append, List.length_cons, List.length_map, List.length_nil] at hl
  obtain rfl : first = [] := List.length_eq_zero_iff.1 (by omega)
  obtain rfl : caps = [] := List.length_eq_zero_iff.1 (by omega)
  obtain rfl : cs = [] := List.length_eq_zero_iff.1 (by omega)
  obtain rfl : xs = [] := by simpa using q2
  simp [statA] at h2
  obtain ⟨rfl, rfl⟩ := h2
  simp only [List.append_nil] at hu hr
  subst hu hr
  simp at hargs
  obtain ⟨g, ds⟩ := x
  simp only at hargs h1
  obtain ⟨rfl, rfl⟩ := hargs
  have hds : ∃ d k, ds = [d] ∧ stat C H k d = some (c0, [(id, some (.row false z c1))], [id]) := by
    cases ds with
    | nil => simp [statL] at h1
    | cons d ds =>
      simp only [statL] at h1
      split at h1
      case h_2 => cases h1
      rename_i ca ua ra ha
      split at h1
      case h_2 => cases h1
      rename_i cb ub rb hb
      simp only [Option.some.injEq, Prod.mk.injEq, List.cons.injEq] at h1
      obtain ⟨⟨rfl, rfl⟩, e1, e2⟩ := h1
      cases ds with
      | nil =>
        simp [statL] at hb
        obtain ⟨rfl, rfl⟩ := hb
        simp only [List.append_nil] at e1 e2
        subst e1 e2
        exact ⟨d, _, rfl, ha⟩
      | cons d' ds =>
        simp only [statL] at hb
        split at hb
        · split at hb <;> simp at hb
        · cases hb
  obtain ⟨d, k, rfl, hs⟩ := hds
  obtain ⟨rfl, hid, rfl⟩ := stat_own hs
  have hfr : RepDX F β N H w (a.eval fo) _ := ev_ok hG hR hE hfv
  have hfn : Rep (MV F β H w) (MR F β H w) (a.eval fo) (.fn f [] []) := hfr.one_inv
  have hfe : a.eval fo = .func (.func f) #[] #[] := by
    generalize a.eval fo = vf at hfn
    cases hfn with
    | empty a cap hv => simp [SC.isView] at hv
    | view _ _ _ _ _ hv => simp [SC.isView] at hv
    | fn fv cv ga h1 h2 =>
      have e1 : fv = #[] := Array.size_eq_zero_iff.1 (by simpa using h1)
      have e2 : cv = #[] := Array.size_eq_zero_iff.1 (by simpa using h2)
      rw [e1, e2]
  have hd := v2 0 _ rfl
  simp at hd
  obtain ⟨oo, ho1, ho2⟩ := hd
  have hone : c.args.map a.eval = #[a.eval oo] := by
    have hsz : c.args.size = 1 := by simpa using v1.symm
    apply Array.ext
    · simp [hsz]
    · intro i hi1 hi2
      simp [hsz] at hi1
      subst hi1
      simp
      rw [Array.getElem?_eq_some_iff] at ho1
      obtain ⟨_, e⟩ := ho1
      rw [e]
  have hown : RepD F β N H w (a.eval oo) (.own id) := (ev_ok hG hR hE ho2).one_inv
  have hrun : (execOp a.eval o).run C.P w = .ok (.enter f #[a.eval oo]) w := by
    unfold fnOk at hfo
    split at hfo
    · rename_i fn hfn
      obtain ⟨hname, hbody⟩ := ble_and hfo
      obtain ⟨body, hbody⟩ := Option.isSome_iff_exists.1 hbody
      have hname' : (fn.name == "runtime.NumGoroutine") = false := by simpa using hname
      simp only [execOp, ho, resolve, hc, hfe, Deferred.ofValue, Sem.run_bind, Sem.run_pure, Result.andThen_ok, invoke, callFunc, run_program, hfn, hname', hbody, Option.isNone_some, Bool.false_eq_true, if_false, hone]
      simp
    · cases hfo
  unfold Oper.wp
  rw [hrun]
  obtain ⟨hn, ⟨hz, hv0, hl0⟩, hblk⟩ := hR.rel id _ hid
  have hidf : id ≠ fid := fun e => hf (e ▸ hn)
  rcases hown.2.2 _ _ _ hid rfl with ⟨b0, b1, b2⟩ | ⟨b, cap, arr, T, b0, b1, b2, b3⟩
  · show Calls C.P f #[a.eval oo] w _
    rw [b2]
    refine (hnil b1 w).mono fun e w1 he => ?_
    obtain ⟨rfl, hw1⟩ := he
    refine ⟨_, rfl, ?_⟩
    have tG := Tr.grow hR hw1
    have hH1 := hR.grow hw1
    have live : ∀ {k : Nat} {b0 : Blk}, k ≠ id → updH H id (some (.row true z c')) k = some b0 → H k = some b0 := fun hk h => by rw [updH_ne _ _ _ hk] at h; exact h
    have t2 : Tr F β N H w1 β N (updH H id (some (.row true z c'))) w1 := by
      refine ⟨Keep.refl _ _, fun bb o v _ hs e => ⟨fun id' blk e' hb => ?_, e⟩, fun _ h => h, fun _ _ => rfl, fun id' blk _ e => ?_, fun _ _ _ _ arr _ _ _ _ _ _ h => ⟨arr, h, rfl⟩, fun _ _ h => h⟩
      · by_cases h : id' = id
        · subst h; rw [b0] at hb; cases hb
        · exact hs id' blk (live h e') hb
      · by_cases h : id' = id
        · subst h; rw [updH_same] at e; cases e
          exact ⟨_, hid, rfl, by omega⟩
        · exact ⟨blk, live h e, blk.like_refl⟩
    have hN : HeapRel F β N (updH H id (some (.row true z c'))) w1 := by
      refine hH1.step t2 (fun i => i = id) (fun i blk hi e => ⟨live hi e, (hH1.rel i blk (live hi e)).1, fun _ _ => rfl⟩) (fun i blk hi e => ?_) (fun i j bb x y hi hj bi bj => ?_)
      · subst hi
        rw [updH_same] at e; cases e
        exact ⟨hn, ⟨hz, hv', huni⟩, .inl ⟨b0, by omega⟩⟩
      · by_cases h1 : i = id
        · subst h1; rw [b0] at bi; cases bi
        · by_cases h2 : j = id
          · subst h2; rw [b0] at bj; cases bj
          · exact hH1.inj i j bb x y (live h1 hi) (live h2 hj) bi bj
    exact ⟨β, _, _, _, hK, (tG.trans t2).setN, hN.setN, ⟨#[], rfl, rfl, by simp⟩⟩
  · have hbl := hR.rel id _ hid
    rcases hblk with ⟨h3, _⟩ | ⟨b', cap', p1, p2, arr', T', r1, r2, r3, r4, r5, r6, r7⟩
    · rw [b0] at h3; cases h3
    rw [b0] at p1; cases p1
    rw [b2] at r1; cases r1
    have hcap : cap = cap' := Nat.eq_of_mul_eq_mul_right hz (by rw [← b3, r2])
    subst hcap
    show Calls C.P f #[a.eval oo] w _
    rw [b1]
    refine (hrow (MV F β H w) w b cap arr T b2 b3 r5 r7).mono fun e w' he => ?_
    obtain ⟨rfl, w1, arr2, hw1, rfl, hs2, hrep2⟩ := he
    refine ⟨_, rfl, ?_⟩
    have tG := Tr.grow hR hw1
    have hH1 := hR.grow hw1
    have hb1 : w1.heap[b]? = some (.cells arr T) := by
      rw [← b2]
      exact hw1.block _ (hR.live_lt hid b0).1
    have hlk : (Blk.row true z c0).like (.row true z c') := ⟨rfl, by omega⟩
    have hst : ∀ o, (Blk.row true z c0).stab o → (Blk.row true z c').stab o ∧ arr2[o]? = arr[o]? := fun o h => by cases h.1
    have t2 := Tr.write (N := N) hH1 hid b0 hb1 hs2 hlk hst
    have hN := HeapRel.write (N := N) hH1 hid b0 hb1 hs2 hlk hst ⟨⟨hz, hv', huni⟩, .inr ⟨b, cap, b0, p2, arr2, T, setRow_heap w1 b arr arr2 T (0, 0) hb1, by rw [hs2, b3], hz, hv', by omega, huni, fun i e j x he hx => (hrep2 i e j x he hx).mono (tG.trans t2).mv (Mem.le_refl _)⟩⟩
    exact ⟨β, _, _, _, hK, (tG.trans t2).setN, hN.setN, ⟨#[], rfl, rfl, by simp⟩⟩
theorem lits_rep {mv mr mv' mr' : Mem} {v : Value} {x : SV} (hl : lits x.2 = true) (h : RepB mv mr v x) : RepB mv' mr' v x := by
  have cell : ∀ {cs : List SC} {k : Nat} {c : SC} {v : Value}, lits cs = true → cs[k]? = some c → Rep mv mr v c → Rep mv' mr' v c := by
    intro cs
    induction cs with
    | nil => intro k c v _ hk; simp at hk
    | cons d cs ih =>
      intro k c v hl hk hr
      cases d with
      | lit z =>
        cases k with
        | zero =>
          simp at hk; subst hk
          cases hr with
          | lit h => exact .lit h
          | empty a cap hv => simp [SC.isView] at hv
          | view _ _ _ _ _ hv => simp [SC.isView] at hv
        | succ k => exact ih (by simpa [lits] using hl) (by simpa using hk) hr
      | _ => simp [lits] at hl
  unfold RepB at *
  split
  · rename_i hx
    rw [if_pos hx] at h
    obtain ⟨arr, h1, h2, h3⟩ := h
    exact ⟨arr, h1, h2, fun k c hc => cell hl hc (h3 k c hc)⟩
  · rename_i hx
    rw [if_neg hx] at h
    obtain ⟨c, h1, h2⟩ := h
    exact ⟨c, h1, cell (k := 0) hl (by rw [h1]; rfl) h2⟩
theorem litsL_get : ∀ {l : List SV} {k : Nat} {x : SV}, litsL l = true → l[k]? = some x → lits x.2 = true
  | [], k, x, _, hk => by simp at hk
  | y :: l, k, x, h, hk => by
    unfold litsL at h
    split at h
    · cases k with
      | zero => simp at hk; subst hk; assumption
      | succ k => exact litsL_get h (by simpa using hk)
    · cases h
theorem post_res (hR : HeapRel F β N H w) (hf : ¬ N fid) {u : Hp} {rs : List Nat} {r : Res} {v : Value} {w1 : World} (hg : Give C H u) (hw1 : Below w.heap.size w w1) (hres : RepRes (MV F β (u.on H) w) w.heap.size w1 v r) (hK : resK fid u rs K r) :
    Post F β N H fid K w v w1 := by
  have hH := hg.heap hR
  have tS : Tr F β N H w β N (u.on H) w := hg.soft.tr
  have tG := Tr.grow hH hw1
  have hH1 := hH.grow hw1
  have hle := after_le hH hw1
  cases r with
  | one x =>
    simp only [resK] at hK
    cases hl : lits x.2 with
    | true =>
      rw [hl] at hK
      exact ⟨β, _, _, _, hK, (Tr.grow hR hw1).setN, (hR.grow hw1).setN, RepDV.setN (RepB.dyn (lits_rep hl hres))⟩
    | false =>
    rw [hl] at hK
    refine ⟨β, _, _, _, hK, (tS.trans tG).setN, hH1.setN, RepDV.setN ?_⟩
    exact RepB.dyn (hres.mono hle (nomem_le _))
  | tup lr =>
    obtain ⟨arr, rfl, h2, h3⟩ := hres
    simp only [resK] at hK
    cases hl : litsL lr with
    | true =>
      rw [hl] at hK
      refine ⟨β, _, _, _, hK, (Tr.grow hR hw1).setN, (hR.grow hw1).setN, RepDV.setN ⟨arr, rfl, by simpa using h2, fun k x hx => ?_⟩⟩
      rw [List.getElem?_map] at hx
      cases hy : lr[k]? with
      | none => rw [hy] at hx; cases hx
      | some y =>
        rw [hy] at hx; cases hx
        exact RepB.dyn (lits_rep (litsL_get hl hy) (h3 k _ hy))
    | false =>
    rw [hl] at hK
    refine ⟨β, _, _, _, hK, (tS.trans tG).setN, hH1.setN, RepDV.setN ⟨arr, rfl, by simpa using h2, fun k x hx => ?_⟩⟩
    rw [List.getElem?_map] at hx
    cases hy : lr[k]? with
    | none => rw [hy] at hx; cases hx
    | some y =>
      rw [hy] at hx; cases hx
      exact RepB.dyn ((h3 k _ hy).mono hle (nomem_le _))
  | own z c =>
    rcases hres with ⟨rfl, h0, hv, hz, hl⟩ | ⟨b, cap, rfl, hb, arr, T, r1, r2, r3, r4, r5, r6, r7⟩
    · have t2 := Tr.new hH1 (Below.refl _ _) hf none (by simp) (.row true z c)
      have hN := HeapRel.new hH1 (Below.refl _ _) hf none (by simp) (.row true z c) ⟨⟨hz, hv, hl⟩, .inl ⟨by simp [setB], h0⟩⟩
      refine ⟨_, _, _, _, hK, (tS.trans tG).trans t2, hN, repOne ⟨.inr rfl, rfl, fun blk0 z' n' hb hz' => ?_⟩⟩
      rw [Hp.on, updH_same] at hb; cases hb; cases hz'
      exact .inl ⟨by simp [setB], h0, rfl⟩
    · have hbb : ∀ x, some b = some x → w.heap.size ≤ x := fun x hx => by cases hx; exact hb
      have t2 := Tr.new hH hw1 hf (some b) hbb (.row true z c)
      have hle2 : ((mvAfter (MV F β (u.on H) w) w.heap.size w1).but b).le (MV F (setB β fid (some b)) (updH (u.on H) fid (some (.row true z c))) w1) := by
        intro b' o' v' h'
        unfold Mem.but at h'
        split at h'
        · cases h'
        · rename_i hne
          unfold mvAfter at h'
          split at h'
          · rename_i hge
            rw [MV_base (Fix.mine_new (Nat.le_trans hH.below.size hge))]
            · exact h'
            · intro id blk e hid
              by_cases hidf : id = fid
              · subst hidf; rw [setB_same] at hid; cases hid; exact (hne rfl).elim
              · rw [updH_ne _ _ _ hidf] at e
                rw [setB_ne _ _ _ hidf] at hid
                have := (hH.live_lt e hid).1
                omega
          · exact t2.mv b' o' v' h'
      have hN := HeapRel.new hH hw1 hf (some b) hbb (.row true z c) ⟨⟨r3, r4, r6⟩, .inr ⟨b, cap, by simp [setB], Fix.mine_new (Nat.le_trans hH.below.size hb), arr, T, r1, r2, r3, r4, r5, r6, fun i e j x he hx => (r7 i e j x he hx).mono hle2 (Mem.le_refl _)⟩⟩
      refine ⟨_, _, _, _, hK, tS.trans t2, hN, repOne ⟨.inr rfl, rfl, fun blk0 z' n' hb' hz' => ?_⟩⟩
      rw [Hp.on, updH_same] at hb'; cases hb'; cases hz'
      exact .inr ⟨b, cap, arr, T, by simp [setB], rfl, r1, r2⟩
  | upd z c => exact hres.elim
  | mix t lr z c =>
    obtain ⟨vo, m, hvo, hres⟩ := hres
    have key : ∃ β', Tr F β N H w β' (setN N fid) (updH (u.on H) fid (some (.row true z c))) w1 ∧ HeapRel F β' (setN N fid) (updH (u.on H) fid (some (.row true z c))) w1 ∧
        RepD F β' (setN N fid) (updH (u.on H) fid (some (.row true z c))) w1 vo (.own fid) ∧ m.le (MV F β' (updH (u.on H) fid (some (.row true z c))) w1) := by
      rcases hvo with ⟨rfl, h0, hv, hz, hl, rfl⟩ | ⟨b, cap, rfl, hb, ⟨arr, T, r1, r2, r3, r4, r5, r6, r7⟩, rfl⟩
      · have t2 := Tr.new hH1 (Below.refl _ _) hf none (by simp) (.row true z c)
        have hN := HeapRel.new hH1 (Below.refl _ _) hf none (by simp) (.row true z c) ⟨⟨hz, hv, hl⟩, .inl ⟨by simp [setB], h0⟩⟩
        refine ⟨_, (tS.trans tG).trans t2, hN, ⟨.inr rfl, rfl, fun blk0 z' n' hb hz' => ?_⟩, Mem.le_trans hle t2.mv⟩
        rw [updH_same] at hb; cases hb; cases hz'
        exact .inl ⟨by simp [setB], h0, rfl⟩
      · have hbb : ∀ x, some b = some x → w.heap.size ≤ x := fun x hx => by cases hx; exact hb
        have t2 := Tr.new hH hw1 hf (some b) hbb (.row true z c)
        have hle2 : ((mvAfter (MV F β (u.on H) w) w.heap.size w1).but b).le (MV F (setB β fid (some b)) (updH (u.on H) fid (some (.row true z c))) w1) := by
          intro b' o' v' h'
          unfold Mem.but at h'
          split at h'
          · cases h'
          · rename_i hne
            unfold mvAfter at h'
            split at h'
            · rename_i hge
              rw [MV_base (Fix.mine_new (Nat.le_trans hH.below.size hge))]
              · exact h'
              · intro id blk e hid
                by_cases hidf : id = fid
                · subst hidf; rw [setB_same] at hid; cases hid; exact (hne rfl).elim
                · rw [updH_ne _ _ _ hidf] at e
                  rw [setB_ne _ _ _ hidf] at hid
                  have := (hH.live_lt e hid).1
                  omega
            · exact t2.mv b' o' v' h'
        have hN := HeapRel.new hH hw1 hf (some b) hbb (.row true z c) ⟨⟨r3, r4, r6⟩, .inr ⟨b, cap, by simp [setB], Fix.mine_new (Nat.le_trans hH.below.size hb), arr, T, r1, r2, r3, r4, r5, r6, fun i e j x he hx => (r7 i e j x he hx).mono hle2 (Mem.le_refl _)⟩⟩
        refine ⟨_, tS.trans t2, hN, ⟨.inr rfl, rfl, fun blk0 z' n' hb' hz' => ?_⟩, hle2⟩
        rw [updH_same] at hb'; cases hb'; cases hz'
        exact .inr ⟨b, cap, arr, T, by simp [setB], rfl, r1, r2⟩
    obtain ⟨β', ht, hN, hown, hm⟩ := key
    have fillX : ∀ {v : Value} {x : Bool × List (Option SC)}, RepO m vo v x → RepDX F β' (setN N fid) (updH (u.on H) fid (some (.row true z c))) w1 v (fillO fid x) := by
      rintro v ⟨g, cs⟩ hx
      have hcell : ∀ {v : Value} {o : Option SC}, RepC m vo v o → RepD F β' (setN N fid) (updH (u.on H) fid (some (.row true z c))) w1 v (fillC fid o) := by
        intro v o hc
        cases o with
        | none => have hc : v = vo := hc; rw [hc]; exact hown
        | some c => exact Rep.mono hm (nomem_le _) hc
      cases g
      · obtain ⟨c, hc, hr⟩ := hx
        simp at hc; subst hc
        exact ⟨_, rfl, hcell hr⟩
      · obtain ⟨arr, h1, h2, h3⟩ := hx
        refine ⟨arr, h1, by simpa [fillO] using h2, fun k c hk => ?_⟩
        simp only [fillO, List.getElem?_map] at hk
        cases hc : cs[k]? with
        | none => simp [hc] at hk
        | some x => simp [hc] at hk; subst hk; exact hcell (h3 k x hc)
    cases t
    · obtain ⟨x, rfl, hx⟩ := hres
      exact ⟨β', _, _, _, hK, ht, hN, fillX hx⟩
    · obtain ⟨arr, rfl, h2, h3⟩ := hres
      refine ⟨β', _, _, _, hK, ht, hN, ⟨arr, rfl, by simpa using h2, fun k x hx => ?_⟩⟩
      rw [List.getElem?_map] at hx
      cases hy : lr[k]? with
      | none => rw [hy] at hx; cases hx
      | some y => rw [hy] at hx; cases hx; exact fillX (h3 k _ hy)
theorem okN_get : ∀ {xs : List DX}, okN xs = true → ∀ (k : Nat) (x : DX), xs[k]? = some x → (∃ s, x = (false, [.st s])) ∨ x = (false, [.nil])
  | [], _, k, x, hk => by simp at hk
  | y :: xs, h, k, x, hk => by
    unfold okN at h
    split at h
    · rename_i hy
      cases hy
    · rename_i s l hy
      cases hy
      cases k with
      | zero => simp at hk; subst hk; exact .inl ⟨_, rfl⟩
      | succ k => exact okN_get h k x (by simpa using hk)
    · rename_i l hy
      cases hy
      cases k with
      | zero => simp at hk; subst hk; exact .inr rfl
      | succ k => exact okN_get h k x (by simpa using hk)
    · cases h
theorem callN_ok (hG : Globs C F) (hR : HeapRel F β N H w) (hf : ¬ N fid) {E : EF} {a : Act} (hE : EnvRel F β N H w E a) {o : Oper} {c : Call} {fo : Operand} (ho : o.op = .call c) (hc : c.callee = .value fo) {Q : Exit → Act → World → Prop}
    {f : FuncId} {first : List SV} {caps : List (List SC)} {xs : List DX} (hfv : C.ev E fo = some (.val (false, [.st (.fn f first caps)]))) (hvals : vals (c.args.toList.map (C.ev E)) = some xs)
    (h : callNA C fid f first caps xs K) :
    o.wp C.P a w (fun a' w' => ∃ v, a' = a.put o.dst v ∧ Post F β N H fid K w v w') Q := by
  unfold callNA at h
  split at h
  case h_2 => exact h.elim
  rename_i hok
  obtain ⟨r, hsat, hK⟩ := h
  have hfr : RepDX F β N H w (a.eval fo) _ := ev_ok hG hR hE hfv
  have hfn : Rep (MV F β H w) (MR F β H w) (a.eval fo) (.fn f [] []) := hfr.one_inv
  have hfe : a.eval fo = .func (.func f) #[] #[] := by
    generalize a.eval fo = vf at hfn
    cases hfn with
    | empty a cap hv => simp [SC.isView] at hv
    | view _ _ _ _ _ hv => simp [SC.isView] at hv
    | fn fv cv ga h1 h2 =>
      have e1 : fv = #[] := Array.size_eq_zero_iff.1 (by simpa using h1)
      have e2 : cv = #[] := Array.size_eq_zero_iff.1 (by simpa using h2)
      rw [e1, e2]
  obtain ⟨v1, v2⟩ := vals_ok hvals
  have hg : Give C H [] := Give.of_freeze (fun p hp => by cases hp)
  have hmv : (MV F β H w).le (rd w) := fun b o v h => MV_rd hG hR h
  have hrun : (execOp a.eval o).run C.P w = .ok (.enter f (c.args.map a.eval)) w := by
    have hfo := hsat.1
    unfold fnOk at hfo
    split at hfo
    · rename_i fn hfn
      obtain ⟨hname, hbody⟩ := ble_and hfo
      obtain ⟨body, hbody⟩ := Option.isSome_iff_exists.1 hbody
      have hname' : (fn.name == "runtime.NumGoroutine") = false := by simpa using hname
      simp only [execOp, ho, resolve, hc, hfe, Deferred.ofValue, Sem.run_bind, Sem.run_pure, Result.andThen_ok, invoke, callFunc, run_program, hfn, hname', hbody, Option.isNone_some, Bool.false_eq_true, if_false]
      simp
    · cases hfo
  unfold Oper.wp
  rw [hrun]
  have hargs : ∀ k x, xs[k]? = some x → ∃ d, x = (false, [d]) ∧ RepN (MV F β H w) (rd w) ((c.args.map a.eval).getD k undef) d := by
    intro k x hx
    have hd := v2 k x hx
    simp at hd
    obtain ⟨oo, ho1, ho2⟩ := hd
    have hget : (c.args.map a.eval).getD k undef = a.eval oo := by simp [Array.getD_eq_getD_getElem?, ho1]
    have hX : RepDX F β N H w (a.eval oo) x := ev_ok hG hR hE ho2
    rw [hget]
    rcases okN_get hok k x hx with ⟨s, rfl⟩ | rfl
    · exact ⟨_, rfl, Rep.mono (Mem.le_refl _) (MR_rd hG hR) hX.one_inv⟩
    · exact ⟨_, rfl, hX.one_inv⟩
  refine (hsat.2 _ w (c.args.map a.eval) hmv (GlobOK.later hG hR) (by simp [v1]) hargs).mono fun e w1 he => ?_
  obtain ⟨v, rfl, hw1, hres⟩ := he
  exact ⟨v, rfl, post_res (u := []) hR hf hg hw1 hres hK⟩
theorem fn_parts {mv mr : Mem} {vf : Value} {f : FuncId} {first : List SV} {caps : List (List SC)} (hfn : Rep mv mr vf (.fn f first caps)) :
    ∃ fv cv, vf = .func (.func f) fv cv ∧ RepL mv mr fv first ∧ RepL mv mr cv (caps.map fun cs => (false, [.ref cs])) := by
  cases hfn with
  | empty a cap hv => simp [SC.isView] at hv
  | view _ _ _ _ _ hv => simp [SC.isView] at hv
  | fn fv cv ga h1 h2 hf1 hf0 hf2 hf3 hcp =>
    refine ⟨fv, cv, rfl, ⟨h1, fun k x hx => ?_⟩, ⟨by simpa using h2, fun k x hx => ?_⟩⟩
    · obtain ⟨g, cs⟩ := x
      cases g
      · obtain ⟨c0, rfl⟩ := hf0 k cs hx
        exact ⟨c0, rfl, hf1 k c0 hx⟩
      · obtain ⟨e1, e2⟩ := hf2 k cs hx
        exact ⟨ga k, e1, e2, fun j y hy => hf3 k cs j y hx hy⟩
    · simp at hx
      obtain ⟨cs, hcs, rfl⟩ := hx
      exact ⟨_, rfl, hcp k cs hcs⟩
theorem enters_ok {P : Program} {g : FuncId} (h : fnOk P g = true) (args : Array Value) (w : World) : (callFunc g args).run P w = .ok (.enter g args) w := by
  unfold fnOk at h
  split at h
  · rename_i fn hfn
    obtain ⟨hname, hbody⟩ := ble_and h
    obtain ⟨body, hbody⟩ := Option.isSome_iff_exists.1 hbody
    have hname' : (fn.name == "runtime.NumGoroutine") = false := by simpa using hname
    simp only [callFunc, Sem.run_bind, Sem.run_pure, Result.andThen_ok, run_program, hfn, hname', hbody, Option.isNone_some, Bool.false_eq_true, if_false]
  · cases h
theorem call_ok (hG : Globs C F) (hR : HeapRel F β N H w) (hf : ¬ N fid) {E : EF} {a : Act} (hE : EnvRel F β N H w E a) {o : Oper} {c : Call} {fo : Operand} (ho : o.op = .call c) (hc : c.callee = .value fo) {Q : Exit → Act → World → Prop}
    (h : callValA C fid (C.ev E fo) (c.args.toList.map (C.ev E)) c.argTypes.toList H K) :
    o.wp C.P a w (fun a' w' => ∃ v, a' = a.put o.dst v ∧ Post F β N H fid K w v w') Q := by
  unfold callValA at h
  split at h
  · rename_i f first caps xs hfv hvals
    split at h
    · rename_i l u rs hst
      obtain ⟨r, hsat, hK⟩ := h
      rcases hsat with hsat | hsat
      case inr => exact callI_ok hG hR hf hE ho hc hfv hvals hst hsat hK
      have hfr : RepDX F β N H w (a.eval fo) _ := ev_ok hG hR hE hfv
      obtain ⟨q1, q2, q3⟩ := statA_ok hst
      obtain ⟨v1, v2⟩ := vals_ok hvals
      have hg : Give C H u := Give.of_freeze q1
      have hH := hg.heap hR
      have hmv : (MV F β (u.on H) w).le (rd w) := fun b o v h => MV_rd hG hH h
      have hargs : RepL (MV F β (u.on H) w) (rd w) (c.args.map a.eval) l := by
        refine ⟨by simp [q2, v1], fun k x hx => ?_⟩
        obtain ⟨g, cs⟩ := x
        obtain ⟨x, ks, ue, re, a1, a2, a3, a4⟩ := q3 k g cs hx
        have hd := v2 k x a1
        simp at hd
        obtain ⟨oo, ho1, ho2⟩ := hd
        have hget : (c.args.map a.eval).getD k undef = a.eval oo := by simp [Array.getD_eq_getD_getElem?, ho1]
        rw [hget, ← a2]
        exact statX_rep hG hR hg (ev_ok hG hR hE ho2) a3 a4
      have hfn : Rep (MV F β H w) (MR F β H w) (a.eval fo) (.fn f first caps) := hfr.one_inv
      obtain ⟨fv, cv, hfe, hfirst, hcaps⟩ := fn_parts hfn
      have tS : Tr F β N H w β N (u.on H) w := hg.soft.tr
      have hall : RepL (MV F β (u.on H) w) (rd w) (fv ++ c.args.map a.eval ++ cv) (first ++ l ++ caps.map fun cs => (false, [.ref cs])) :=
        ((hfirst.mono tS.mv (MR_rd hG hR)).append hargs).append (hcaps.mono tS.mv (MR_rd hG hR))
      have hcalls := hsat.2 _ w _ hmv (GlobOK.later hG hH) hall
      have hrun : (execOp a.eval o).run C.P w = .ok (.enter f (fv ++ c.args.map a.eval ++ cv)) w := by
        have hfo := hsat.1
        unfold fnOk at hfo
        split at hfo
        · rename_i fn hfn
          obtain ⟨hname, hbody⟩ := ble_and hfo
          obtain ⟨body, hbody⟩ := Option.isSome_iff_exists.1 hbody
          have hname' : (fn.name == "runtime.NumGoroutine") = false := by simpa using hname
          simp only [execOp, ho, resolve, hc, hfe, Deferred.ofValue, Sem.run_bind, Sem.run_pure, Result.andThen_ok, invoke, callFunc, run_program, hfn, hname', hbody, Option.isNone_some, Bool.false_eq_true, if_false]
        · cases hfo
      unfold Oper.wp
      rw [hrun]
      refine hcalls.mono fun e w1 he => ?_
      obtain ⟨v, rfl, hw1, hres⟩ := he
      exact ⟨v, rfl, post_res hR hf hg hw1 hres hK⟩
    · exact h.elim
  · exact h.elim
theorem callOp_ok (hG : Globs C F) (hR : HeapRel F β N H w) (hf : ¬ N fid) {E : EF} {a : Act} (hE : EnvRel F β N H w E a) {o : Oper} {c : Call} {fo : Operand} (ho : o.op = .call c) (hc : c.callee = .value fo) {nx : Bool} {Q : Exit → Act → World → Prop}
    (h : callOpA C fid nx (C.ev E fo) (c.args.toList.map (C.ev E)) c.argTypes.toList H K) :
    o.wp C.P a w (fun a' w' => ∃ v, a' = a.put o.dst v ∧ Post F β N H fid K w v w') Q := by
  unfold callOpA at h
  cases nx
  · exact call_ok hG hR hf hE ho hc h
  · simp only at h
    split at h
    · rename_i hfv hvals
      exact callN_ok hG hR hf hE ho hc hfv hvals h
    · exact h.elim
end
end Go.Fw
namespace Go.Fw
open Go.RowKit (Below)
section
variable {C : Ctx} {F : Fix} {β : Nat → Option Nat} {N : Nat → Prop} {H : HF} {fid : Nat} {K : OpK} {w w' : World} {P : Program}
theorem wp_value {o : Oper} {a : Act} {v : Value} {next : Act → World → Prop} {Q : Exit → Act → World → Prop} (h : (execOp a.eval o).run P w = .ok (.value v) w') (hn : next (a.put o.dst v) w') : o.wp P a w next Q := by
  unfold Oper.wp
  rw [h]; exact hn
theorem wp_skip' {o : Oper} {a : Act} {next : Act → World → Prop} {Q : Exit → Act → World → Prop} (h : (execOp a.eval o).run P w = .ok .skip w') (hn : next (a.put o.dst undef) w') : o.wp P a w next Q := by
  unfold Oper.wp
  rw [h]; exact hn
theorem vals_map {ds : List (Option DV)} {xs : List DX} (h : (ds.mapM fun d => match d with | some (.val x) => some x | _ => none) = some xs) : xs.length = ds.length ∧ ∀ (k : Nat) (x : DX), xs[k]? = some x → ds[k]? = some (some (.val x)) := by
  induction ds generalizing xs with
  | nil => simp at h; subst h; simp
  | cons d ds ih =>
    simp only [List.mapM_cons, Option.bind_eq_bind, Option.bind_eq_some_iff] at h
    obtain ⟨x, hx, ys, hys, hr⟩ := h
    simp at hr; subst hr
    obtain ⟨h1, h2⟩ := ih hys
    refine ⟨by simp [h1], fun k x' hk => ?_⟩
    cases k with
    | zero =>
      simp at hk; subst hk
      split at hx
      · simp at hx; subst hx; rfl
      · cases hx
    | succ k => simpa using h2 k x' (by simpa using hk)
theorem op_sound (hC : C.Ok) (hG : Globs C F) (hR : HeapRel F β N H w) (hf : ¬ N fid) {E : EF} {a : Act} (hE : EnvRel F β N H w E a) {o : Oper} {Q : Exit → Act → World → Prop} (h : opA C fid o (C.ev E) H K) :
    o.wp C.P a w (fun a' w' => ∃ v, a' = a.put o.dst v ∧ Post F β N H fid K w v w') Q := by
  have ev : ∀ {x : Operand} {d : DV}, C.ev E x = some d → RepDV F β N H w (a.eval x) d := fun h => ev_ok hG hR hE h
  cases ho : o.op with
  | move x =>
    unfold opA at h; rw [ho] at h; simp only at h
    split at h
    · rename_i d hd
      exact wp_value (by simp [execOp, ho]) ⟨_, rfl, Post.pure hR h (ev hd)⟩
    · exact h.elim
  | assign x =>
    unfold opA at h; rw [ho] at h; simp only at h
    split at h
    · rename_i d hd
      exact wp_value (by simp [execOp, ho]) ⟨_, rfl, Post.pure hR h (ev hd)⟩
    · exact h.elim
  | pick c x y =>
    unfold opA at h; rw [ho] at h; simp only at h
    split at h
    · rename_i t hc
      have hcv := (RepDX.one_inv (ev hc)).lit_inv.1
      cases t
      · simp only at h
        split at h
        · rename_i d hd
          exact wp_value (v := a.eval y) (by simp [execOp, ho, hcv, asBool]) ⟨_, rfl, Post.pure hR h (ev hd)⟩
        · exact h.elim
      · simp only at h
        split at h
        · rename_i d hd
          exact wp_value (v := a.eval x) (by simp [execOp, ho, hcv, asBool]) ⟨_, rfl, Post.pure hR h (ev hd)⟩
        · exact h.elim
    · exact h.elim
  | alloc T =>
    unfold opA at h; rw [ho] at h; simp only at h
    split at h
    · rename_i i hi
      split at h
      · rename_i cs hz
        obtain ⟨v, w', hr, hp⟩ := alloc_ok (v0 := .tuple #[]) hC hR hf hi hz h
        exact wp_value (by simp only [execOp, ho, Sem.run_bind, hr, Result.andThen_ok]; rfl) ⟨_, rfl, hp⟩
      · exact h.elim
    · exact h.elim
  | box T x =>
    unfold opA at h; rw [ho] at h; simp only at h
    split at h
    · rename_i d hd
      obtain ⟨v, w', hr, hp⟩ := box_ok (C := C) hR hf (ev hd) h
      exact wp_value (by simp only [execOp, ho, Sem.run_bind, hr, Result.andThen_ok]; rfl) ⟨_, rfl, hp⟩
    · exact h.elim
  | build T parts =>
    obtain ⟨v, hr, hp⟩ := build_ok hC hG hR hE ho h
    exact wp_value (by simp only [execOp, ho, Sem.run_bind, hr, Result.andThen_ok]; rfl) ⟨_, rfl, hp⟩
  | buildSlice T len parts =>
    obtain ⟨v, w', hr, hp⟩ := buildSlice_ok hC hG hR hf hE ho h
    exact wp_value (by simp only [execOp, ho, Sem.run_bind, hr, Result.andThen_ok]; rfl) ⟨_, rfl, hp⟩
  | load T x =>
    unfold opA at h; rw [ho] at h; simp only at h
    split at h
    · rename_i d hd
      obtain ⟨v, hr, hp⟩ := load_ok hC hG hR (ev hd) h
      exact wp_value (by simp only [execOp, ho, Sem.run_bind, hr, Result.andThen_ok]; rfl) ⟨_, rfl, hp⟩
    · exact h.elim
  | store T x y =>
    unfold opA at h; rw [ho] at h; simp only at h
    split at h
    · rename_i d e hd he
      obtain ⟨w', hr, hp⟩ := store_ok hC hR (ev hd) (ev he) h
      exact wp_skip' (by simp only [execOp, ho, Sem.run_bind, hr, Result.andThen_ok]; rfl) ⟨_, rfl, hp⟩
    · exact h.elim
  | fieldAddr T x n =>
    unfold opA at h; rw [ho] at h; simp only at h
    split at h
    · rename_i d hd
      obtain ⟨v, hr, hp⟩ := fieldAddr_ok hC hR (ev hd) h
      exact wp_value (by simp only [execOp, ho, Sem.run_bind, hr, Result.andThen_ok]; rfl) ⟨_, rfl, hp⟩
    · exact h.elim
  | indexAddr T x y =>
    unfold opA at h; rw [ho] at h; simp only at h
    split at h
    · rename_i d e hd he
      obtain ⟨v, hr, hp⟩ := indexAddr_ok hC hG hR (ev hd) (ev he) h
      exact wp_value (by simp only [execOp, ho, Sem.run_bind, hr, Result.andThen_ok]; rfl) ⟨_, rfl, hp⟩
    · exact h.elim
  | index T x y =>
    unfold opA at h; rw [ho] at h; simp only at h
    split at h
    · rename_i d e hd he
      obtain ⟨v, hr, hp⟩ := index_ok hC hR (ev hd) (ev he) h
      exact wp_value (by simp only [execOp, ho, Sem.run_bind, hr, Result.andThen_ok]; rfl) ⟨_, rfl, hp⟩
    · exact h.elim
  | field T x n =>
    unfold opA at h; rw [ho] at h; simp only at h
    split at h
    · rename_i d hd
      obtain ⟨v, hr, hp⟩ := field_ok hC hR (ev hd) h
      exact wp_value (by simp only [execOp, ho, Sem.run_bind, hr, Result.andThen_ok]; rfl) ⟨_, rfl, hp⟩
    · exact h.elim
  | slice T x lo hi mx =>
    unfold opA at h; rw [ho] at h; simp only at h
    split at h
    · rename_i d hd
      obtain ⟨v, hr, hp⟩ := slice_ok hC hG hR hE (ev hd) h
      exact wp_value (by simp only [execOp, ho, Sem.run_bind, Option.map_none, hr, Result.andThen_ok]; rfl) ⟨_, rfl, hp⟩
    · exact h.elim
  | binOp op T x y yT =>
    unfold opA at h; rw [ho] at h; simp only at h
    split at h
    · rename_i d e hd he
      obtain ⟨v, hr, hp⟩ := binA_ok (xo := x) (yo := y) hC hR (ev hd) (ev he) h
      refine wp_value (w' := w) (v := v) ?_ ⟨_, rfl, hp⟩
      simp only [execOp, ho]
      rw [Sem.run_bind, hr]; rfl
    · exact h.elim
  | unOp op T x =>
    unfold opA at h; rw [ho] at h; simp only at h
    split at h
    · rename_i d hd
      obtain ⟨v, hr, hp⟩ := unA_ok (P := C.P) hR (ev hd) h
      exact wp_value (by simp only [execOp, ho, Sem.run_bind, hr, Result.andThen_ok]; rfl) ⟨_, rfl, hp⟩
    · exact h.elim
  | convert s t x =>
    unfold opA at h; rw [ho] at h; simp only at h
    split at h
    · rename_i d hd
      obtain ⟨v, hr, hp⟩ := convA_ok hC hG hR (ev hd) h
      exact wp_value (by simp only [execOp, ho, Sem.run_bind, hr, Result.andThen_ok]; rfl) ⟨_, rfl, hp⟩
    · exact h.elim
  | extract t n =>
    unfold opA at h; rw [ho] at h; simp only at h
    split at h
    · rename_i l hl
      split at h
      · rename_i x hx
        obtain ⟨arr, h1, h2, h3⟩ := ev hl
        have hlt : n < arr.size := by rw [h2]; exact (List.getElem?_eq_some_iff.1 hx).1
        have hg : arr[n]? = some (arr.getD n undef) := by simp [Array.getD, hlt]
        exact wp_value (v := arr.getD n undef) (by simp only [execOp, ho, h1, Instr.extract, hg, Sem.run_bind, Sem.run_pure, Result.andThen_ok]) ⟨_, rfl, Post.pure hR h (h3 n x hx)⟩
      · exact h.elim
    · exact h.elim
  | makeFunc fn first caps =>
    cases fn with
    | func f =>
      unfold opA at h; rw [ho] at h; simp only at h
      obtain ⟨v, hr, hp⟩ := makeFunc_ok (P := C.P) hG hR hE h
      exact wp_value (by simp only [execOp, ho, Sem.run_bind, hr, Result.andThen_ok]; rfl) ⟨_, rfl, hp⟩
    | _ => unfold opA at h; rw [ho] at h; exact h.elim
  | makeSlice T x y =>
    unfold opA at h; rw [ho] at h; simp only at h
    split at h
    · rename_i d e hd he
      obtain ⟨v, w', hr, hp⟩ := makeSlice_ok hC hR hf (ev hd) (ev he) h
      exact wp_value (by simp only [execOp, ho, Sem.run_bind, hr, Result.andThen_ok]; rfl) ⟨_, rfl, hp⟩
    · exact h.elim
  | call c =>
    cases hc : c.callee with
    | value fo =>
      unfold opA at h; rw [ho] at h; simp only [hc] at h
      exact callOp_ok hG hR hf hE ho hc h
    | invoke r m => unfold opA at h; rw [ho] at h; simp only [hc] at h
    | builtin b =>
      unfold opA at h; rw [ho] at h; simp only [hc] at h
      have key : ∀ {v : Value} {w' : World}, (builtin b c.argTypes o.type (c.args.map fun | .const _ => true | _ => false) (c.args.map a.eval)).run C.P w = .ok (.value v) w' → Post F β N H fid K w v w' →
          o.wp C.P a w (fun a' w' => ∃ v, a' = a.put o.dst v ∧ Post F β N H fid K w v w') Q := by
        intro v w' hr hp
        refine wp_value ?_ ⟨v, rfl, hp⟩
        simp only [execOp, ho, resolve, hc, Sem.run_bind, Sem.run_pure, Result.andThen_ok, invoke]
        exact hr
      unfold builtinA at h
      split at h
      ·
        rename_i t ts x hts hargs
        have h0 : c.args.size = 1 := by have := congrArg List.length hargs; simpa using this
        obtain ⟨x0, hx0⟩ : ∃ x0, c.args = #[x0] := by
          have : c.args.toList.length = 1 := by simpa using h0
          obtain ⟨x0, h⟩ := List.length_eq_one_iff.1 this
          exact ⟨x0, by apply Array.ext'; exact h⟩
        have hev : C.ev E x0 = some (.val x) := by rw [hx0] at hargs; simpa using hargs
        have hat : c.argTypes[0]? = some t := by
          have := congrArg (·[0]?) hts
          simpa using this
        split at h
        · exact h.elim
        · rename_i i hi
          obtain ⟨tf, d, z, hT⟩ := hC.get hi
          have hx := ev hev
          split at h
          · rename_i e c0 hcls
            have hd := cls_slice (hT.cls.trans hcls)
            split at h
            · rename_i hv
              obtain ⟨a0, cap, hval, _⟩ := (RepDX.one_inv hx).len_zero hv
              exact key (by simp [builtin, Builtin.len_, hat, hx0, hT.run_und, hd, hval, goInt]) (Post.pure hR h (repLit rfl))
            · exact h.elim
          · rename_i e hcls
            have hd := cls_slice (hT.cls.trans hcls)
            have hval : a.eval x0 = .slice none 0 0 := RepDX.one_inv hx
            exact key (by simp [builtin, Builtin.len_, hat, hx0, hT.run_und, hd, hval, goInt]) (Post.pure hR h (repLit rfl))
          · rename_i e id hcls
            have hd := cls_slice (hT.cls.trans hcls)
            split at h
            · rename_i m z' c0 hb
              obtain ⟨_, _, hown⟩ := RepDX.one_inv hx
              have hval : ∃ a0 cap, a.eval x0 = .slice a0 c0.len cap := by
                rcases hown _ z' c0.len hb rfl with ⟨_, h2, h3⟩ | ⟨b, cap, arr, T, _, h2, _⟩
                · exact ⟨none, 0, by rw [h2]; exact h3⟩
                · exact ⟨_, cap, h2⟩
              obtain ⟨a0, cap, hval⟩ := hval
              exact key (by simp [builtin, Builtin.len_, hat, hx0, hT.run_und, hd, hval, goInt]) (Post.pure hR h (repLit rfl))
            · rename_i z' l hb
              obtain ⟨_, _, hown⟩ := RepDX.one_inv hx
              have hval : ∃ a0 cap, a.eval x0 = .slice a0 l.length cap := by
                rcases hown _ z' l.length hb rfl with ⟨_, h2, h3⟩ | ⟨b, cap, arr, T, _, h2, _⟩
                · exact ⟨none, 0, by rw [h2]; exact h3⟩
                · exact ⟨_, cap, h2⟩
              obtain ⟨a0, cap, hval⟩ := hval
              exact key (by simp [builtin, Builtin.len_, hat, hx0, hT.run_und, hd, hval, goInt]) (Post.pure hR h (repLit rfl))
            · exact h.elim
          · rename_i s hcls
            have hd := cls_str (hT.cls.trans hcls)
            have hval := (RepDX.one_inv hx).lit_inv.1
            exact key (by simp [builtin, Builtin.len_, hat, hx0, hT.run_und, hd, hval, goInt]) (Post.pure hR h (repLit rfl))
          · rename_i n e hcls
            have hd := cls_array (hT.cls.trans hcls)
            exact key (by simp [builtin, Builtin.len_, hat, hx0, hT.run_und, hd, goInt]) (Post.pure hR h (repLit rfl))
          · exact h.elim
      ·
        rename_i t t' x y hts hargs
        have h0 : c.args.size = 2 := by have := congrArg List.length hargs; simpa using this
        obtain ⟨x0, x1, hx0⟩ : ∃ x0 x1, c.args = #[x0, x1] := by
          have : c.args.toList.length = 2 := by simpa using h0
          match hl : c.args.toList, this with
          | [x0, x1], _ => exact ⟨x0, x1, by apply Array.ext'; exact hl⟩
        have hev : C.ev E x0 = some (.val x) ∧ C.ev E x1 = some (.val y) := by rw [hx0] at hargs; simpa using hargs
        have hat : c.argTypes = #[t, t'] := by apply Array.ext'; simpa using hts
        split at h
        · rename_i i' hi'
          split at h
          · rename_i e' hcls
            obtain ⟨v, w', hr, hp⟩ := append_ok (T := t) (ty := o.type) hC hG hR hf hi' hcls (ev hev.1) (ev hev.2) h
            refine key (v := v) (w' := w') ?_ hp
            simp only [builtin, hat, hx0, List.map_toArray, List.map_cons, List.map_nil, Sem.run_bind, hr, Result.andThen_ok]
            rfl
          · rename_i k' hcls
            obtain ⟨v, w', hr, hp⟩ := appendZ_ok (T := t) (ty := o.type) hC hG hR hf hi' hcls (ev hev.1) (ev hev.2) h
            refine key (v := v) (w' := w') ?_ hp
            simp only [builtin, hat, hx0, List.map_toArray, List.map_cons, List.map_nil, Sem.run_bind, hr, Result.andThen_ok]
            rfl
          · exact h.elim
        · exact h.elim
      ·
        rename_i k n r hargs
        split at h
        · rename_i xs hxs
          obtain ⟨m1, m2⟩ := vals_map hxs
          obtain ⟨x0, rest, hcl⟩ : ∃ x0 rest, c.args.toList = x0 :: rest := by
            cases hl : c.args.toList with
            | nil => rw [hl] at hargs; simp at hargs
            | cons x0 rest => exact ⟨x0, rest, rfl⟩
          rw [hcl] at hargs
          simp at hargs
          obtain ⟨he0, her⟩ := hargs
          have hv0 := (RepDX.one_inv (ev he0)).lit_inv.1
          subst her
          obtain ⟨v, hr, hp, hK⟩ := minmax_ok (P := C.P) (w := w) (H := H) (β := β) (N := N) (F := F) (vs := rest.map a.eval) (by simpa using m1.symm) (fun j x v e1 e2 => by
            have := m2 j x e1
            simp at this e2
            obtain ⟨o1, h1, h2⟩ := this
            obtain ⟨o2, h3, rfl⟩ := e2
            rw [h1] at h3; cases h3
            exact ev h2) h
          refine key (v := v) (w' := w) ?_ (Post.pure hR hK (repLit hp))
          simp only [if_true] at hr
          simp only [builtin, Builtin.max_, Array.toList_map, hcl, List.map_cons, hv0, Sem.run_bind, hr, Result.andThen_ok]
          rfl
        · exact h.elim
      ·
        rename_i k n r hargs
        split at h
        · rename_i xs hxs
          obtain ⟨m1, m2⟩ := vals_map hxs
          obtain ⟨x0, rest, hcl⟩ : ∃ x0 rest, c.args.toList = x0 :: rest := by
            cases hl : c.args.toList with
            | nil => rw [hl] at hargs; simp at hargs
            | cons x0 rest => exact ⟨x0, rest, rfl⟩
          rw [hcl] at hargs
          simp at hargs
          obtain ⟨he0, her⟩ := hargs
          have hv0 := (RepDX.one_inv (ev he0)).lit_inv.1
          subst her
          obtain ⟨v, hr, hp, hK⟩ := minmax_ok (P := C.P) (w := w) (H := H) (β := β) (N := N) (F := F) (vs := rest.map a.eval) (by simpa using m1.symm) (fun j x v e1 e2 => by
            have := m2 j x e1
            simp at this e2
            obtain ⟨o1, h1, h2⟩ := this
            obtain ⟨o2, h3, rfl⟩ := e2
            rw [h1] at h3; cases h3
            exact ev h2) h
          refine key (v := v) (w' := w) ?_ (Post.pure hR hK (repLit hp))
          simp only [Bool.false_eq_true, if_false] at hr
          simp only [builtin, Builtin.min_, Array.toList_map, hcl, List.map_cons, hv0, Sem.run_bind, hr, Result.andThen_ok]
          rfl
        · exact h.elim
      · exact h.elim
  | _ => unfold opA at h; rw [ho] at h; exact h.elim
end
end Go.Fw
namespace Go.Fw
section
variable {C : Ctx} {H H' : HF} {fid : Nat} {K : OpK}
theorem stat1_local {k : Bool} {d : DC} {c : SC} {u : Hp} {r : List Nat} (h : stat1 H k d = some (c, u, r)) (hH : ∀ id ∈ r, H' id = H id) : stat1 H' k d = some (c, u, r) := by
  cases d with
  | own id =>
    simp only [stat1] at h ⊢
    split at h
    · rename_i m z c' e
      simp at h
      obtain ⟨rfl, rfl, rfl⟩ := h
      rw [hH id (by simp), e]
    · rename_i e
      simp at h
      obtain ⟨rfl, rfl, rfl⟩ := h
      rw [hH id (by simp), e]
    · cases h
  | clo g id => simp [stat1] at h
  | mp id => simp [stat1] at h
  | st c' => simpa [stat1] using h
  | nil => simpa [stat1] using h
  | ptr id off => simp [stat1] at h
  | rptr id z i off => simp [stat1] at h
theorem stat1L_local : ∀ {ks : List Bool} {ds : List DC} {l : List SC} {u : Hp} {r : List Nat}, stat1L H ks ds = some (l, u, r) → (∀ id ∈ r, H' id = H id) → stat1L H' ks ds = some (l, u, r)
  | ks, [], l, u, r, h, _ => by simpa [stat1L] using h
  | ks, d :: ds, l, u, r, h, hH => by
    simp only [stat1L] at h ⊢
    split at h
    · rename_i c u1 r1 h1
      split at h
      · rename_i cs u2 r2 h2
        simp at h
        obtain ⟨rfl, rfl, rfl⟩ := h
        rw [stat1_local h1 fun id hid => hH id (List.mem_append.2 (.inl hid)), stat1L_local h2 fun id hid => hH id (List.mem_append.2 (.inr hid))]
      · cases h
    · cases h
theorem stat_local {k : Bool} {d : DC} {c : SC} {u : Hp} {r : List Nat} (h : stat C H k d = some (c, u, r)) (hH : ∀ id ∈ r, H' id = H id) : stat C H' k d = some (c, u, r) := by
  cases d with
  | ptr id off =>
    simp only [stat] at h ⊢
    split at h
    · rename_i cs hb
      simp at h; obtain ⟨rfl, rfl, rfl⟩ := h
      rw [hH id (by simp), hb]
    · rename_i t cs hb
      split at h
      · rename_i l u1 r1 h1
        simp at h; obtain ⟨rfl, rfl, rfl⟩ := h
        rw [hH id (by simp), hb]
        simp only
        rw [stat1L_local h1 fun j hj => hH j (by simp [hj])]
      · cases h
    · cases h
  | st c' => exact stat1_local (d := .st c') (k := k) h hH
  | nil => exact stat1_local (d := .nil) (k := k) h hH
  | own id => exact stat1_local (d := .own id) (k := k) h hH
  | clo g id => simp [stat, stat1] at h
  | mp id => simp [stat, stat1] at h
  | rptr id z i off =>
    simp only [stat] at h ⊢
    split at h
    · rename_i z' l hb
      split at h
      · rename_i e hzz hel
        split at h
        · rename_i cs u1 r1 h1
          simp at h; obtain ⟨rfl, rfl, rfl⟩ := h
          rw [hH id (by simp), hb]
          simp only [hzz, hel]
          rw [stat1L_local h1 fun j hj => hH j (by simp [hj])]
        · cases h
      · cases h
    · rename_i m z' c0 hb
      split at h
      · rename_i e hzz hel
        simp at h; obtain ⟨rfl, rfl, rfl⟩ := h
        rw [hH id (by simp), hb]
        simp only [hzz, hel]
      · cases h
    · cases h
theorem statL_local : ∀ {ks : List Bool} {ds : List DC} {l : List SC} {u : Hp} {r : List Nat}, statL C H ks ds = some (l, u, r) → (∀ id ∈ r, H' id = H id) → statL C H' ks ds = some (l, u, r)
  | ks, [], l, u, r, h, _ => by simpa [statL] using h
  | ks, d :: ds, l, u, r, h, hH => by
    simp only [statL] at h ⊢
    split at h
    · rename_i c u1 r1 h1
      split at h
      · rename_i cs u2 r2 h2
        simp at h
        obtain ⟨rfl, rfl, rfl⟩ := h
        rw [stat_local h1 fun id hid => hH id (List.mem_append.2 (.inl hid)), statL_local h2 fun id hid => hH id (List.mem_append.2 (.inr hid))]
      · cases h
    · cases h
theorem statA_local : ∀ {ts : List TypeId} {xs : List DX} {l : List SV} {u : Hp} {r : List Nat}, statA C H ts xs = some (l, u, r) → (∀ id ∈ r, H' id = H id) → statA C H' ts xs = some (l, u, r)
  | ks, [], l, u, r, h, _ => by simpa [statA] using h
  | ks, d :: ds, l, u, r, h, hH => by
    simp only [statA] at h ⊢
    split at h
    · rename_i c u1 r1 h1
      split at h
      · rename_i cs u2 r2 h2
        simp at h
        obtain ⟨rfl, rfl, rfl⟩ := h
        rw [statL_local h1 fun id hid => hH id (List.mem_append.2 (.inl hid)), statA_local h2 fun id hid => hH id (List.mem_append.2 (.inr hid))]
      · cases h
    · cases h
theorem litElems_local {ks : List Bool} {z : Nat} : ∀ {ps : List (Nat × Option DV)} {n : Nat} {es : List (List SC)} {u : Hp} {r : List Nat}, litElems H ks z n ps = some (es, u, r) → (∀ id ∈ r, H' id = H id) → litElems H' ks z n ps = some (es, u, r)
  | [], n, es, u, r, h, _ => by simpa [litElems] using h
  | p :: ps, n, es, u, r, h, hH => by
    unfold litElems at h ⊢
    split at h
    · rename_i heq; cases heq
    · rename_i n0 i x rest heq
      cases heq
      split at h
      · rename_i hb
        split at h
        · rename_i e u1 r1 hst
          split at h
          · rename_i es' u2 r2 hf hrec
            simp at h
            obtain ⟨rfl, rfl, rfl⟩ := h
            rw [stat1L_local hst fun id hid => hH id (List.mem_append.2 (.inl hid))]
            simp only
            rw [hf, litElems_local hrec fun id hid => hH id (List.mem_append.2 (.inr hid))]
          · cases h
        · cases h
      · cases h
    · cases h
theorem firsts_local : ∀ {ds : List (Option DV)} {l : List SV} {u : Hp} {r : List Nat}, makeFuncA.firsts H ds = some (l, u, r) → (∀ id ∈ r, H' id = H id) → makeFuncA.firsts H' ds = some (l, u, r)
  | [], l, u, r, h, _ => by simpa [makeFuncA.firsts] using h
  | d :: ds, l, u, r, h, hH => by
    unfold makeFuncA.firsts at h ⊢
    split at h
    · rename_i heq; cases heq
    · rename_i x xs heq
      cases heq
      split at h
      · rename_i c u1 r1 h1
        split at h
        · rename_i cs u2 r2 h2
          simp at h
          obtain ⟨rfl, rfl, rfl⟩ := h
          rw [stat1L_local h1 fun id hid => hH id (List.mem_append.2 (.inl hid))]
          simp only
          rw [firsts_local h2 fun id hid => hH id (List.mem_append.2 (.inr hid))]
        · cases h
      · cases h
    · cases h
theorem capts_local : ∀ {ds : List (Option DV)} {l : List (List SC)} {u : Hp} {r : List Nat}, makeFuncA.capts C H ds = some (l, u, r) → (∀ id ∈ r, H' id = H id) → makeFuncA.capts C H' ds = some (l, u, r)
  | [], l, u, r, h, _ => by simpa [makeFuncA.capts] using h
  | d :: ds, l, u, r, h, hH => by
    unfold makeFuncA.capts at h ⊢
    split at h
    · rename_i heq; cases heq
    · rename_i id xs heq
      cases heq
      split at h
      · rename_i cs hb
        split at h
        · rename_i l2 u2 r2 h2
          simp at h
          obtain ⟨rfl, rfl, rfl⟩ := h
          rw [hH id (by simp), hb]
          simp only
          rw [capts_local h2 fun j hj => hH j (by simp [hj])]
        · cases h
      · rename_i t cs hb
        split at h
        · rename_i c u1 r1 h1
          split at h
          · rename_i l2 u2 r2 h2
            simp at h
            obtain ⟨rfl, rfl, rfl⟩ := h
            rw [hH id (by simp), hb]
            simp only
            rw [stat1L_local h1 fun j hj => hH j (by simp [hj])]
            simp only
            rw [capts_local h2 fun j hj => hH j (by simp [hj])]
          · cases h
        · cases h
      · cases h
    · rename_i cs xs heq
      cases heq
      split at h
      · rename_i l2 u2 r2 h2
        simp at h
        obtain ⟨rfl, rfl, rfl⟩ := h
        rw [capts_local h2 hH]
      · cases h
    · cases h
def Loc (f : HF → OpK → Prop) : Prop := ∀ H K, f H K → ∃ r u R, K r u R ∧ ∀ (H' : HF) (K' : OpK), (∀ id ∈ R, H' id = H id) → K' r u R → f H' K'
theorem Loc.const {f : OpK → Prop} (h : ∀ K, f K → ∃ r u R, K r u R ∧ ∀ K' : OpK, K' r u R → f K') : Loc fun _ K => f K := fun _ K hK =>
  let ⟨r, u, R, h1, h2⟩ := h K hK; ⟨r, u, R, h1, fun _ K' _ h3 => h2 K' h3⟩
theorem load_local (T : TypeId) (x : DX) : Loc (loadA C T x) := by
  intro H K h
  unfold loadA at h
  split at h
  · exact h.elim
  rename_i i hi
  split at h
  · rename_i id off
    split at h
    · rename_i t cs hb
      split at h
      · rename_i hle
        exact ⟨_, _, _, h, fun H' K' hH hK => by simp only [loadA, hi, hH id (by simp), hb, hle]; exact hK⟩
      · exact h.elim
    · rename_i cs hb
      split at h
      · rename_i hle
        exact ⟨_, _, _, h, fun H' K' hH hK => by simp only [loadA, hi, hH id (by simp), hb, hle]; exact hK⟩
      · exact h.elim
    · exact h.elim
  · rename_i cs
    split at h
    · rename_i hle
      exact ⟨_, _, _, h, fun H' K' hH hK => by simp only [loadA, hi, hle]; exact hK⟩
    · exact h.elim
  · rename_i id z n off
    split at h
    · rename_i m z' c hb
      split at h
      · rename_i hle
        obtain ⟨e, he, h⟩ := h
        exact ⟨_, _, _, h, fun H' K' hH hK => by simp only [loadA, hi, hH id (by simp), hb, hle]; exact ⟨e, he, hK⟩⟩
      · exact h.elim
    · rename_i z' l hb
      split at h
      · rename_i hle
        obtain ⟨e, he, h⟩ := h
        exact ⟨_, _, _, h, fun H' K' hH hK => by simp only [loadA, hi, hH id (by simp), hb, hle]; exact ⟨e, he, hK⟩⟩
      · exact h.elim
    · exact h.elim
  · exact h.elim
theorem store_local (T : TypeId) (x y : DX) : Loc (storeA C T x y) := by
  intro H K h
  unfold storeA at h
  split at h
  · exact h.elim
  rename_i i hi
  split at h
  · exact h.elim
  rename_i hlen
  split at h
  · rename_i id off
    split at h
    · rename_i t cs hb
      split at h
      · rename_i hle
        exact ⟨_, _, _, h, fun H' K' hH hK => by simp only [storeA, hi, hlen, hH id (by simp), hb, hle]; exact hK⟩
      · exact h.elim
    · exact h.elim
  · rename_i id z n off
    split at h
    · rename_i z' c hb
      split at h
      · rename_i hle
        split at h
        · rename_i l r hst
          split at h
          · rename_i hf
            obtain ⟨e, he, h⟩ := h
            split at h
            · rename_i c' hset
              refine ⟨_, _, _, h, fun H' K' hH hK => ?_⟩
              simp only [storeA, hi, hlen, hH id (by simp), hb, hle, stat1L_local hst fun j hj => hH j (by simp [hj]), hf]
              exact ⟨e, he, by rw [hset]; exact hK⟩
            · exact h.elim
          · exact h.elim
        · exact h.elim
      · exact h.elim
    · rename_i z' l hb
      split at h
      · rename_i hle
        obtain ⟨e, he, h⟩ := h
        exact ⟨_, _, _, h, fun H' K' hH hK => by simp only [storeA, hi, hlen, hH id (by simp), hb, hle]; exact ⟨e, he, hK⟩⟩
      · exact h.elim
    · exact h.elim
  · exact h.elim
theorem fieldAddr_local (T : TypeId) (x : DX) (n : Nat) : Loc fun _ K => fieldAddrA C T x n K := by
  refine Loc.const fun K h => ?_
  unfold fieldAddrA at h ⊢
  split at h
  · exact h.elim
  rename_i i hi
  split at h
  · rename_i fs hcls
    split at h
    · rename_i o ft hfs
      split at h
      · rename_i fi hfi
        split at h
        · rename_i hsz
          split at h
          · exact ⟨_, _, _, h, fun K' hK => by simpa only [hi, hcls, hfs, hfi, hsz] using hK⟩
          · exact ⟨_, _, _, h, fun K' hK => by simpa only [hi, hcls, hfs, hfi, hsz] using hK⟩
          · exact ⟨_, _, _, h, fun K' hK => by simpa only [hi, hcls, hfs, hfi, hsz] using hK⟩
          · exact h.elim
        · exact h.elim
      · exact h.elim
    · exact h.elim
  · exact h.elim
theorem indexAddr_local (T : TypeId) (x y : DX) : Loc (indexAddrA C T x y) := by
  intro H K h
  unfold indexAddrA at h
  split at h
  · exact h.elim
  rename_i i hi
  split at h
  · rename_i e k n hcls
    split at h
    · exact h.elim
    rename_i ie hie
    split at h
    · rename_i id
      split at h
      · rename_i m z c hb
        split at h
        · rename_i hz
          obtain ⟨h0, h⟩ := h
          exact ⟨_, _, _, h, fun H' K' hH hK => by simp only [indexAddrA, hi, hcls, hie, hH id (by simp), hb, hz]; exact ⟨h0, hK⟩⟩
        · exact h.elim
      · rename_i z l hb
        split at h
        · rename_i hz
          obtain ⟨h0, h⟩ := h
          exact ⟨_, _, _, h, fun H' K' hH hK => by simp only [indexAddrA, hi, hcls, hie, hH id (by simp), hb, hz]; exact ⟨h0, hK⟩⟩
        · exact h.elim
      · exact h.elim
    · rename_i c
      split at h
      · rename_i hv
        obtain ⟨h0, el, he, hl, h⟩ := h
        exact ⟨_, _, _, h, fun H' K' hH hK => by simp only [indexAddrA, hi, hcls, hie, hv]; exact ⟨h0, el, he, hl, hK⟩⟩
      · exact h.elim
    · exact h.elim
  · rename_i len e k n hcls
    split at h
    · exact h.elim
    rename_i ie hie
    split at h
    · obtain ⟨h0, h⟩ := h
      exact ⟨_, _, _, h, fun H' K' hH hK => by simp only [indexAddrA, hi, hcls, hie]; exact ⟨h0, hK⟩⟩
    · obtain ⟨h0, h⟩ := h
      exact ⟨_, _, _, h, fun H' K' hH hK => by simp only [indexAddrA, hi, hcls, hie]; exact ⟨h0, hK⟩⟩
    · exact h.elim
  · exact h.elim
theorem part_local {i : TI} {cs : List DC} {off : Nat} (h : partA i cs off K) : ∃ r u R, K r u R ∧ ∀ K' : OpK, K' r u R → partA i cs off K' := by
  unfold partA at h ⊢
  split at h
  · rename_i hle
    exact ⟨_, _, _, h, fun K' hK => by simpa only [hle] using hK⟩
  · exact h.elim
theorem index_local (T : TypeId) (x y : DX) : Loc fun _ K => indexA C T x y K := by
  refine Loc.const fun K h => ?_
  unfold indexA at h
  split at h
  · exact h.elim
  rename_i i hi
  split at h
  · rename_i len e k n hcls
    split at h
    · exact h.elim
    rename_i ie hie
    split at h
    · obtain ⟨h0, h⟩ := h
      obtain ⟨r, u, R, h1, h2⟩ := part_local h
      exact ⟨r, u, R, h1, fun K' hK => by simp only [indexA, hi, hcls, hie]; exact ⟨h0, h2 K' hK⟩⟩
    · exact h.elim
  · rename_i k n hcls
    split at h
    · obtain ⟨h0, b, hb, h⟩ := h
      exact ⟨_, _, _, h, fun K' hK => by simp only [indexA, hi, hcls]; exact ⟨h0, b, hb, hK⟩⟩
    · exact h.elim
  · exact h.elim
theorem field_local (T : TypeId) (x : DX) (n : Nat) : Loc fun _ K => fieldA C T x n K := by
  refine Loc.const fun K h => ?_
  unfold fieldA at h
  split at h
  · exact h.elim
  rename_i i hi
  split at h
  · rename_i fs hcls
    split at h
    · rename_i o ft hfs
      split at h
      · rename_i fi hfi
        split at h
        · obtain ⟨r, u, R, h1, h2⟩ := part_local h
          exact ⟨r, u, R, h1, fun K' hK => by simp only [fieldA, hi, hcls, hfs, hfi]; exact h2 K' hK⟩
        · exact h.elim
      · exact h.elim
    · exact h.elim
  · exact h.elim
theorem bnd_local {d : Option (Option DV)} {dflt : Nat} {K' : Nat → Prop} (h : bnd d dflt K') : ∃ n, K' n ∧ ∀ K'' : Nat → Prop, K'' n → bnd d dflt K'' := by
  unfold bnd at h
  split at h
  · exact ⟨_, h, fun K'' hK => by simpa only [bnd] using hK⟩
  · obtain ⟨h0, h⟩ := h
    exact ⟨_, h, fun K'' hK => by simp only [bnd]; exact ⟨h0, hK⟩⟩
  · exact h.elim
theorem slice_local (T : TypeId) (x : DX) (lo hi : Option (Option DV)) : Loc (sliceA C T x lo hi) := by
  intro H K h
  unfold sliceA at h
  split at h
  · exact h.elim
  rename_i i hi'
  split at h
  · rename_i e hcls
    split at h
    · exact h.elim
    rename_i ie hie
    split at h
    · rename_i c u r hst
      split at h
      · rename_i hx1 hv
        obtain ⟨l, h, hl⟩ := bnd_local h
        obtain ⟨hh, h, hh'⟩ := bnd_local h
        obtain ⟨h1, hu, h⟩ := h
        refine ⟨_, _, _, h, fun H' K' hH hK => ?_⟩
        simp only [sliceA, hi', hcls, hie, stat1L_local hst hH]
        rw [hx1, hv]
        exact hl _ (hh' _ ⟨h1, hu, hK⟩)
      · exact h.elim
    · exact h.elim
  · rename_i hcls
    split at h
    · obtain ⟨l, h, hl⟩ := bnd_local h
      obtain ⟨hh, h, hh'⟩ := bnd_local h
      obtain ⟨h1, h⟩ := h
      refine ⟨_, _, _, h, fun H' K' hH hK => ?_⟩
      simp only [sliceA, hi', hcls]
      exact hl _ (hh' _ ⟨h1, hK⟩)
    · exact h.elim
  · rename_i n e hcls
    split at h
    · exact h.elim
    rename_i ie hie
    split at h
    · rename_i _l1 id off
      split at h
      · rename_i t cs hb
        split at h
        · rename_i l u r hst
          split at h
          · rename_i hints hle
            split at h
            · rename_i ns hns
              refine ⟨_, _, _, h, fun H' K' hH hK => ?_⟩
              simp only [sliceA, hi', hcls, hie, hH id (by simp), hb, stat1L_local hst fun j hj => hH j (by simp [hj])]
              rw [hints, hle, hns]
              exact hK
            · exact h.elim
          · exact h.elim
        · exact h.elim
      · rename_i l hb
        split at h
        · rename_i hints hle
          split at h
          · rename_i ns hns
            refine ⟨_, _, _, h, fun H' K' hH hK => ?_⟩
            simp only [sliceA, hi', hcls, hie, hH id (by simp), hb]
            rw [hints, hle, hns]
            exact hK
          · exact h.elim
        · exact h.elim
      · exact h.elim
    · exact h.elim
  · exact h.elim
end
end Go.Fw
namespace Go.Fw
section
variable {C : Ctx} {H H' : HF} {fid : Nat} {K : OpK}
theorem intBin_local {op : BinOp} {k : IntKind} {a b : Int} {K : Value → Prop} (h : intBin op k a b K) : ∃ v, K v ∧ ∀ K' : Value → Prop, K' v → intBin op k a b K' := by
  cases op <;> simp only [intBin] at h ⊢ <;> first
    | exact h.elim
    | exact ⟨_, h, fun _ hK => hK⟩
    | exact ⟨_, h.2, fun _ hK => ⟨h.1, hK⟩⟩
theorem strBin_local {op : BinOp} {a b : ByteArray} {K : Value → Prop} (h : strBin op a b K) : ∃ v, K v ∧ ∀ K' : Value → Prop, K' v → strBin op a b K' := by
  cases op <;> simp only [strBin] at h ⊢ <;> first
    | exact h.elim
    | exact ⟨_, h, fun _ hK => hK⟩
    | exact ⟨_, h.2, fun _ hK => ⟨h.1, hK⟩⟩
theorem litBin_local {op : BinOp} {x y : Value} {K : Value → Prop} (h : litBin op x y K) : ∃ v, K v ∧ ∀ K' : Value → Prop, K' v → litBin op x y K' := by
  unfold litBin at h ⊢
  split at h
  · split at h
    · exact ⟨_, h.2, fun _ hK => ⟨h.1, hK⟩⟩
    · exact ⟨_, h.2, fun _ hK => ⟨h.1, hK⟩⟩
    · split at h
      · rename_i hk
        obtain ⟨v, h1, h2⟩ := intBin_local h
        exact ⟨v, h1, fun K' hK => by simpa only [hk] using h2 K' hK⟩
      · exact h.elim
  · obtain ⟨v, h1, h2⟩ := strBin_local h
    exact ⟨v, h1, fun K' hK => h2 K' hK⟩
  · exact h.elim
theorem bin_local (nc : Bool) (op : BinOp) (T : TypeId) (x y : DX) : Loc fun _ K => binA C nc op T x y fun v => K v [] [] := by
  refine Loc.const fun K h => ?_
  unfold binA at h ⊢
  split at h
  · split at h
    · rename_i i hi
      split at h
      · rename_i hc
        exact ⟨_, _, _, h, fun K' hK => by simpa only [hi, hc] using hK⟩
      · rename_i hc
        exact ⟨_, _, _, h, fun K' hK => by simpa only [hi, hc] using hK⟩
      · exact h.elim
    · exact h.elim
  · split at h
    · rename_i i hi
      split at h
      · rename_i hc
        exact ⟨_, _, _, h, fun K' hK => by simpa only [hi, hc] using hK⟩
      · rename_i hc
        exact ⟨_, _, _, h, fun K' hK => by simpa only [hi, hc] using hK⟩
      · exact h.elim
    · exact h.elim
  · split at h
    · rename_i i hi
      split at h
      · rename_i hc
        exact ⟨_, _, _, h, fun K' hK => by simpa only [hi, hc] using hK⟩
      · rename_i hc
        exact ⟨_, _, _, h, fun K' hK => by simpa only [hi, hc] using hK⟩
      · exact h.elim
    · exact h.elim
  · split at h
    · rename_i b i hb hi
      split at h
      · rename_i hc
        exact ⟨_, _, _, h, fun K' hK => by simpa only [hb, hi, hc] using hK⟩
      · rename_i hc
        exact ⟨_, _, _, h, fun K' hK => by simpa only [hb, hi, hc] using hK⟩
      · exact h.elim
    · exact h.elim
  · rename_i a b hnb hnc hnp
    obtain ⟨v, h1, h2⟩ := litBin_local h
    refine ⟨_, _, _, h1, fun K' hK => ?_⟩
    have := h2 (fun v => K' (lit v) [] []) hK
    simpa only using this
  · split at h
    · rename_i i hi
      split at h
      · rename_i hag
        split at h
        · rename_i l he
          split at h
          · rename_i p hp
            exact ⟨_, _, _, h, fun K' hK => by simpa only [hi, hag, he, hp] using hK⟩
          · exact h.elim
        · rename_i l he
          split at h
          · rename_i p hp
            exact ⟨_, _, _, h, fun K' hK => by simpa only [hi, hag, he, hp] using hK⟩
          · exact h.elim
        · exact h.elim
      · exact h.elim
    · exact h.elim
  · exact h.elim
theorem un_local (op : UnOp) (x : DX) : Loc fun _ K => unA op x fun v => K v [] [] := by
  refine Loc.const fun K h => ?_
  unfold unA at h ⊢
  split at h
  · exact ⟨_, _, _, h, fun K' hK => hK⟩
  · exact ⟨_, _, _, h, fun K' hK => hK⟩
  · exact ⟨_, _, _, h, fun K' hK => hK⟩
  · exact h.elim
theorem conv_local (S T : TypeId) (x : DX) : Loc (convA C S T x) := by
  intro H K h
  unfold convA at h
  split at h
  · rename_i i j hi hj
    split at h
    · rename_i h1
      split at h
      · rename_i h2
        exact ⟨_, _, _, h, fun H' K' hH hK => by simp only [convA, hi, hj, h1, h2]; exact hK⟩
      · exact h.elim
    · rename_i h1
      split at h
      · rename_i h2
        exact ⟨_, _, _, h, fun H' K' hH hK => by simp only [convA, hi, hj, h1, h2]; exact hK⟩
      · exact h.elim
    · rename_i e h1
      split at h
      · rename_i d h2
        split at h
        · rename_i es uu rr hby hst
          split at h
          · rename_i l hl
            exact ⟨_, _, _, h, fun H' K' hH hK => by simp only [convA, hi, hj, h1, h2, hby, stat1_local hst hH, hl]; exact hK⟩
          · exact h.elim
        · exact h.elim
      · exact h.elim
    · exact h.elim
  · exact h.elim
theorem makeFunc_local (f : FuncId) (a b : List (Option DV)) : Loc (makeFuncA C f a b) := by
  intro H K h
  unfold makeFuncA at h
  split at h
  · rename_i fs u r h1
    split at h
    · rename_i cs u' r' h2
      refine ⟨_, _, _, h, fun H' K' hH hK => ?_⟩
      simp only [makeFuncA, firsts_local h1 fun j hj => hH j (List.mem_append.2 (.inl hj)), capts_local h2 fun j hj => hH j (List.mem_append.2 (.inr hj))]
      exact hK
    · exact h.elim
  · exact h.elim
theorem makeSlice_local (T : TypeId) (x y : DX) : Loc fun _ K => makeSliceA C fid T x y K := by
  refine Loc.const fun K h => ?_
  unfold makeSliceA at h
  split at h
  · exact h.elim
  rename_i i hi
  split at h
  · rename_i e k1 n k2 m hcls
    split at h
    · exact h.elim
    rename_i ie hie
    split at h
    · rename_i hb
      obtain ⟨h0, h⟩ := h
      split at h
      · rename_i hint
        split at h
        · rename_i hz
          exact ⟨_, _, _, h, fun K' hK => by simp only [makeSliceA, hi, hcls, hie, hb, hint]; exact ⟨h0, by rw [hz]; exact hK⟩⟩
        · exact h.elim
      · rename_i hint
        split at h
        · rename_i z hz
          exact ⟨_, _, _, h, fun K' hK => by simp only [makeSliceA, hi, hcls, hie, hb, hint]; exact ⟨h0, by rw [hz]; exact hK⟩⟩
        · exact h.elim
    · exact h.elim
  · exact h.elim
theorem append_local (T : TypeId) (x y : DX) : Loc (appendA C fid T x y) := by
  intro H K h
  unfold appendA at h
  split at h
  · exact h.elim
  rename_i i hi
  split at h
  · rename_i e yc hcls
    split at h
    · exact h.elim
    rename_i ie hie
    split at h
    · exact h.elim
    rename_i hb
    split at h
    · exact h.elim
    rename_i cy uy ry hst
    split at h
    · split at h
      · rename_i c' hcat
        obtain ⟨h1, h2, h⟩ := h
        refine ⟨_, _, _, h, fun H' K' hH hK => ?_⟩
        simp only [appendA, hi, hcls, hie, hb, stat1_local hst hH, hcat]
        exact ⟨h1, h2, hK⟩
      · exact h.elim
    · rename_i id
      split at h
      · rename_i m z c hbk
        split at h
        · rename_i c' hzz hcat
          obtain ⟨h1, h2, h⟩ := h
          refine ⟨_, _, _, h, fun H' K' hH hK => ?_⟩
          simp only [appendA, hi, hcls, hie, hb, stat1_local hst fun j hj => hH j (by simp [hj]), hH id (by simp), hbk, hzz, hcat]
          exact ⟨h1, h2, hK⟩
        · exact h.elim
      · exact h.elim
    · exact h.elim
  · exact h.elim
theorem appendZ_local (T : TypeId) (x y : DX) : Loc (appendZA C fid T x y) := by
  intro H K h
  unfold appendZA at h
  split at h
  · exact h.elim
  rename_i i hi
  split at h
  · rename_i e k n hcls
    split at h
    · exact h.elim
    rename_i ie hie
    split at h
    · exact h.elim
    rename_i hb
    obtain ⟨h0, h⟩ := h
    split at h
    · exact h.elim
    rename_i cy hz
    split at h
    · rename_i id
      split at h
      · rename_i m z c hid
        split at h
        · rename_i c' hzz hcat
          obtain ⟨h1, h⟩ := h
          exact ⟨_, _, _, h, fun H' K' hH hK => by simp only [appendZA, hi, hcls, hie, hb, hz, hH id (by simp), hid, hzz, hcat]; exact ⟨h0, h1, hK⟩⟩
        · exact h.elim
      · exact h.elim
    · exact h.elim
  · exact h.elim
theorem minmax_local {mx : Bool} {k : IntKind} : ∀ {xs : List DX} {a : Int} {K : Value → Prop}, minmax mx k a xs K → ∃ v, K v ∧ ∀ K' : Value → Prop, K' v → minmax mx k a xs K'
  | [], a, K, h => ⟨_, h, fun _ hK => hK⟩
  | x :: xs, a, K, h => by
    unfold minmax at h ⊢
    split at h
    · rename_i heq; cases heq
    · rename_i k' b r heq
      cases heq
      split at h
      · rename_i hk
        obtain ⟨v, h1, h2⟩ := minmax_local h
        exact ⟨v, h1, fun K' hK => by simpa only [hk] using h2 K' hK⟩
      · exact h.elim
    · exact h.elim
theorem builtin_local (b : Builtin) (ats : List TypeId) (args : List (Option DV)) : Loc (builtinA C fid b ats args) := by
  intro H K h
  unfold builtinA at h
  split at h
  · split at h
    · exact h.elim
    rename_i i hi
    split at h
    · rename_i hcls
      split at h
      · rename_i hv
        exact ⟨_, _, _, h, fun H' K' hH hK => by simp only [builtinA, hi, hcls, hv]; exact hK⟩
      · exact h.elim
    · rename_i hcls
      exact ⟨_, _, _, h, fun H' K' hH hK => by simp only [builtinA, hi, hcls]; exact hK⟩
    · rename_i id hcls
      split at h
      · rename_i hb
        exact ⟨_, _, _, h, fun H' K' hH hK => by simp only [builtinA, hi, hcls, hH id (by simp), hb]; exact hK⟩
      · rename_i hb
        exact ⟨_, _, _, h, fun H' K' hH hK => by simp only [builtinA, hi, hcls, hH id (by simp), hb]; exact hK⟩
      · exact h.elim
    · rename_i hcls
      exact ⟨_, _, _, h, fun H' K' hH hK => by simp only [builtinA, hi, hcls]; exact hK⟩
    · rename_i hcls
      exact ⟨_, _, _, h, fun H' K' hH hK => by simp only [builtinA, hi, hcls]; exact hK⟩
    · exact h.elim
  · split at h
    · rename_i i' hi'
      split at h
      · rename_i hcls
        obtain ⟨r, u, R, h1, h2⟩ := append_local _ _ _ _ _ h
        exact ⟨r, u, R, h1, fun H' K' hH hK => by simp only [builtinA, hi', hcls]; exact h2 H' K' hH hK⟩
      · rename_i hcls
        obtain ⟨r, u, R, h1, h2⟩ := appendZ_local _ _ _ _ _ h
        exact ⟨r, u, R, h1, fun H' K' hH hK => by simp only [builtinA, hi', hcls]; exact h2 H' K' hH hK⟩
      · exact h.elim
    · exact h.elim
  · split at h
    · rename_i xs hxs
      obtain ⟨v, h1, h2⟩ := minmax_local h
      exact ⟨_, _, _, h1, fun H' K' hH hK => by simp only [builtinA, hxs]; exact h2 (fun v => K' (lit v) [] []) hK⟩
    · exact h.elim
  · split at h
    · rename_i xs hxs
      obtain ⟨v, h1, h2⟩ := minmax_local h
      exact ⟨_, _, _, h1, fun H' K' hH hK => by simp only [builtinA, hxs]; exact h2 (fun v => K' (lit v) [] []) hK⟩
    · exact h.elim
  · exact h.elim
theorem callNA_intro {f : FuncId} {xs : List DX} (hok : okN xs = true) (h : ∃ r, SatN C.P C.gl f xs r ∧ resK fid [] [] K r) : callNA C fid f [] [] xs K := by
  unfold callNA; rw [hok]; exact h
theorem callVal_local (fv : Option DV) (args : List (Option DV)) (ats : List TypeId) : Loc (callValA C fid fv args ats) := by
  intro H K h
  unfold callValA at h
  split at h
  · rename_i f first caps xs hv
    split at h
    · rename_i l u rs hst
      obtain ⟨r, hsat, h⟩ := h
      cases r with
      | one x => exact ⟨_, _, _, h, fun H' K' hH hK => by simp only [callValA, hv, statA_local hst hH]; exact ⟨.one x, hsat, hK⟩⟩
      | tup x => exact ⟨_, _, _, h, fun H' K' hH hK => by simp only [callValA, hv, statA_local hst hH]; exact ⟨.tup x, hsat, hK⟩⟩
      | own z c => exact ⟨_, _, _, h, fun H' K' hH hK => by simp only [callValA, hv, statA_local hst hH]; exact ⟨.own z c, hsat, hK⟩⟩
      | mix t x z c =>
        cases t
        · match x, hsat, h with
          | [y], hsat, h => exact ⟨_, _, _, h, fun H' K' hH hK => by simp only [callValA, hv, statA_local hst hH]; exact ⟨.mix false [y] z c, hsat, hK⟩⟩
          | [], _, h => exact h.elim
          | _ :: _ :: _, _, h => exact h.elim
        · exact ⟨_, _, _, h, fun H' K' hH hK => by simp only [callValA, hv, statA_local hst hH]; exact ⟨.mix true x z c, hsat, hK⟩⟩
      | upd z c =>
        simp only [resK] at h
        split at h
        · rename_i id z' c' id'
          split at h
          · rename_i hb
            exact ⟨_, _, _, h, fun H' K' hH hK => by
              have hH' : ∀ i ∈ [id'], H' i = H i := fun i hi => by
                rw [List.mem_singleton] at hi; subst hi
                exact hH _ (by rw [← Nat.eq_of_beq_eq_true (ble_and hb).1]; simp)
              simp only [callValA, hv, statA_local hst hH']
              exact ⟨.upd z c, hsat, by simp only [resK, hb]; exact hK⟩⟩
          · exact h.elim
        · exact h.elim
    · exact h.elim
  · exact h.elim
theorem callOp_local (nx : Bool) (fv : Option DV) (args : List (Option DV)) (ats : List TypeId) : Loc (callOpA C fid nx fv args ats) := by
  cases nx
  · exact callVal_local fv args ats
  intro H K h
  unfold callOpA at h
  simp only at h
  split at h
  · rename_i f first caps xs hv
    have key : ∀ K' : OpK, callNA C fid f first caps xs K' → ∀ H', callOpA C fid true (some (.val (false, [.st (.fn f first caps)]))) args ats H' K' := fun K' hK H' => by simp only [callOpA, hv]; exact hK
    unfold callNA at h
    split at h
    case h_2 => exact h.elim
    rename_i hok
    obtain ⟨r, hsat, h⟩ := h
    cases r with
    | one x => exact ⟨_, _, _, h, fun H' K' hH hK => key K' (callNA_intro (by assumption) ⟨.one x, hsat, hK⟩) H'⟩
    | tup x => exact ⟨_, _, _, h, fun H' K' hH hK => key K' (callNA_intro (by assumption) ⟨.tup x, hsat, hK⟩) H'⟩
    | own z c => exact ⟨_, _, _, h, fun H' K' hH hK => key K' (callNA_intro (by assumption) ⟨.own z c, hsat, hK⟩) H'⟩
    | mix t x z c =>
      cases t
      · match x, hsat, h with
        | [y], hsat, h => exact ⟨_, _, _, h, fun H' K' hH hK => key K' (callNA_intro (by assumption) ⟨.mix false [y] z c, hsat, hK⟩) H'⟩
        | [], _, h => exact h.elim
        | _ :: _ :: _, _, h => exact h.elim
      · exact ⟨_, _, _, h, fun H' K' hH hK => key K' (callNA_intro (by assumption) ⟨.mix true x z c, hsat, hK⟩) H'⟩
    | upd z c => simp only [resK] at h
  · exact h.elim
theorem opA_local {o : Oper} {ev : Operand → Option DV} (h : opA C fid o ev H K) : ∃ r u R, K r u R ∧ ∀ (ev' : Operand → Option DV) (H' : HF) (K' : OpK), (∀ x ∈ o.op.operands.toList, ev' x = ev x) → (∀ id ∈ R, H' id = H id) → K' r u R → opA C fid o ev' H' K' := by
  have key : ∀ {p : Op} {f : HF → OpK → Prop}, Loc f → f H K → (∀ (ev' : Operand → Option DV) (H' : HF) (K' : OpK), (∀ x ∈ p.operands.toList, ev' x = ev x) → f H' K' → opA C fid o ev' H' K') →
      ∃ r u R, K r u R ∧ ∀ (ev' : Operand → Option DV) (H' : HF) (K' : OpK), (∀ x ∈ p.operands.toList, ev' x = ev x) → (∀ id ∈ R, H' id = H id) → K' r u R → opA C fid o ev' H' K' := by
    intro p f hL hf hx
    obtain ⟨r, u, R, h1, h2⟩ := hL H K hf
    exact ⟨r, u, R, h1, fun ev' H' K' he hH hK => hx ev' H' K' he (h2 H' K' hH hK)⟩
  have hmap : ∀ {l : List Operand} {ev' : Operand → Option DV}, (∀ x ∈ l, ev' x = ev x) → l.map ev' = l.map ev := fun h => List.map_congr_left h
  cases ho : o.op with
  | move x =>
    unfold opA at h; rw [ho] at h; simp only at h
    split at h
    · rename_i d hd
      exact ⟨_, _, _, h, fun ev' H' K' he hH hK => by unfold opA; simp only [ho, he x (by simp [Op.operands]), hd]; exact hK⟩
    · exact h.elim
  | assign x =>
    unfold opA at h; rw [ho] at h; simp only at h
    split at h
    · rename_i d hd
      exact ⟨_, _, _, h, fun ev' H' K' he hH hK => by unfold opA; simp only [ho, he x (by simp [Op.operands]), hd]; exact hK⟩
    · exact h.elim
  | pick c x y =>
    unfold opA at h; rw [ho] at h; simp only at h
    split at h
    · rename_i t hc
      cases t
      · simp only at h
        split at h
        · rename_i d hd
          exact ⟨_, _, _, h, fun ev' H' K' he hH hK => by unfold opA; simp only [ho, he c (by simp [Op.operands]), he y (by simp [Op.operands]), hc, hd]; exact hK⟩
        · exact h.elim
      · simp only at h
        split at h
        · rename_i d hd
          exact ⟨_, _, _, h, fun ev' H' K' he hH hK => by unfold opA; simp only [ho, he c (by simp [Op.operands]), he x (by simp [Op.operands]), hc, hd]; exact hK⟩
        · exact h.elim
    · exact h.elim
  | alloc T =>
    unfold opA at h; rw [ho] at h; simp only at h
    split at h
    · rename_i i hi
      split at h
      · rename_i cs hz
        exact ⟨_, _, _, h, fun ev' H' K' he hH hK => by unfold opA; simp only [ho, hi, hz]; exact hK⟩
      · exact h.elim
    · exact h.elim
  | box T x =>
    unfold opA at h; rw [ho] at h; simp only at h
    split at h
    · rename_i d hd
      exact ⟨_, _, _, h, fun ev' H' K' he hH hK => by unfold opA; simp only [ho, he x (by simp [Op.operands]), hd]; exact hK⟩
    · exact h.elim
  | build T parts =>
    have hparts : ∀ {ev' : Operand → Option DV}, (∀ x ∈ (Op.build T parts).operands.toList, ev' x = ev x) → (parts.toList.map fun p => (p.1, ev' p.2)) = parts.toList.map fun p => (p.1, ev p.2) := by
      intro ev' he
      refine List.map_congr_left fun p hp => ?_
      rw [he p.2 (by simp [Op.operands]; exact ⟨p.1, by simpa using hp⟩)]
    unfold opA at h; rw [ho] at h; simp only at h
    split at h
    · rename_i i hi
      split at h
      · rename_i zs hz
        split at h
        · rename_i fs hcls
          split at h
          · rename_i cs hfill
            exact ⟨_, _, _, h, fun ev' H' K' he hH hK => by unfold opA; simp only [ho, hi, hz, hcls, hparts he]; rw [hfill]; exact hK⟩
          · exact h.elim
        · rename_i n e hcls
          split at h
          · rename_i ie hie
            split at h
            · rename_i cs hfill
              exact ⟨_, _, _, h, fun ev' H' K' he hH hK => by unfold opA; simp only [ho, hi, hz, hcls, hie, hparts he]; rw [hfill]; exact hK⟩
            · exact h.elim
          · exact h.elim
        · exact h.elim
      · exact h.elim
    · exact h.elim
  | buildSlice T len parts =>
    have hparts : ∀ {ev' : Operand → Option DV}, (∀ x ∈ (Op.buildSlice T len parts).operands.toList, ev' x = ev x) → (parts.toList.map fun p => (p.1, ev' p.2)) = parts.toList.map fun p => (p.1, ev p.2) := by
      intro ev' he
      refine List.map_congr_left fun p hp => ?_
      rw [he p.2 (by simp [Op.operands]; exact ⟨p.1, by simpa using hp⟩)]
    unfold opA at h; rw [ho] at h; simp only at h
    split at h
    · rename_i i hi
      split at h
      · rename_i e hcls
        split at h
        · rename_i ie hie
          split at h
          · rename_i hb
            split at h
            · rename_i es u r hes
              split at h
              · rename_i c hc
                refine ⟨_, _, _, h, fun ev' H' K' he hH hK => ?_⟩
                unfold opA
                simp only [ho, hi, hcls, hie, hb, hparts he, litElems_local hes hH]
                rw [hc]; exact hK
              · exact h.elim
            · exact h.elim
          · exact h.elim
        · exact h.elim
      · exact h.elim
    · exact h.elim
  | load T x =>
    unfold opA at h; rw [ho] at h; simp only at h
    split at h
    · rename_i d hd
      exact key (load_local T d) h fun ev' H' K' he hf => by unfold opA; simp only [ho, he x (by simp [Op.operands]), hd]; exact hf
    · exact h.elim
  | store T x y =>
    unfold opA at h; rw [ho] at h; simp only at h
    split at h
    · rename_i d e hd he'
      exact key (store_local T d e) h fun ev' H' K' he hf => by unfold opA; simp only [ho, he x (by simp [Op.operands]), he y (by simp [Op.operands]), hd, he']; exact hf
    · exact h.elim
  | fieldAddr T x n =>
    unfold opA at h; rw [ho] at h; simp only at h
    split at h
    · rename_i d hd
      exact key (fieldAddr_local T d n) h fun ev' H' K' he hf => by unfold opA; simp only [ho, he x (by simp [Op.operands]), hd]; exact hf
    · exact h.elim
  | indexAddr T x y =>
    unfold opA at h; rw [ho] at h; simp only at h
    split at h
    · rename_i d e hd he'
      exact key (indexAddr_local T d e) h fun ev' H' K' he hf => by unfold opA; simp only [ho, he x (by simp [Op.operands]), he y (by simp [Op.operands]), hd, he']; exact hf
    · exact h.elim
  | index T x y =>
    unfold opA at h; rw [ho] at h; simp only at h
    split at h
    · rename_i d e hd he'
      exact key (index_local T d e) h fun ev' H' K' he hf => by unfold opA; simp only [ho, he x (by simp [Op.operands]), he y (by simp [Op.operands]), hd, he']; exact hf
    · exact h.elim
  | field T x n =>
    unfold opA at h; rw [ho] at h; simp only at h
    split at h
    · rename_i d hd
      exact key (field_local T d n) h fun ev' H' K' he hf => by unfold opA; simp only [ho, he x (by simp [Op.operands]), hd]; exact hf
    · exact h.elim
  | slice T x lo hi mx =>
    unfold opA at h; rw [ho] at h; simp only at h
    split at h
    · rename_i d hd
      refine key (slice_local T d (lo.map ev) (hi.map ev)) h fun ev' H' K' he hf => ?_
      have e1 : lo.map ev' = lo.map ev := by
        cases lo with
        | none => rfl
        | some z => simp [he z (by simp [Op.operands])]
      have e2 : hi.map ev' = hi.map ev := by
        cases hi with
        | none => rfl
        | some z => simp [he z (by simp [Op.operands])]
      unfold opA; simp only [ho, he x (by simp [Op.operands]), hd, e1, e2]; exact hf
    · exact h.elim
  | binOp op T x y yT =>
    unfold opA at h; rw [ho] at h; simp only at h
    split at h
    · rename_i d e hd he'
      exact key (bin_local _ op T d e) h fun ev' H' K' he hf => by unfold opA; simp only [ho, he x (by simp [Op.operands]), he y (by simp [Op.operands]), hd, he']; exact hf
    · exact h.elim
  | unOp op T x =>
    unfold opA at h; rw [ho] at h; simp only at h
    split at h
    · rename_i d hd
      exact key (un_local op d) h fun ev' H' K' he hf => by unfold opA; simp only [ho, he x (by simp [Op.operands]), hd]; exact hf
    · exact h.elim
  | convert s t x =>
    unfold opA at h; rw [ho] at h; simp only at h
    split at h
    · rename_i d hd
      exact key (conv_local s t d) h fun ev' H' K' he hf => by unfold opA; simp only [ho, he x (by simp [Op.operands]), hd]; exact hf
    · exact h.elim
  | extract t n =>
    unfold opA at h; rw [ho] at h; simp only at h
    split at h
    · rename_i l hl
      split at h
      · rename_i x hx
        exact ⟨_, _, _, h, fun ev' H' K' he hH hK => by unfold opA; simp only [ho, he t (by simp [Op.operands]), hl, hx]; exact hK⟩
      · exact h.elim
    · exact h.elim
  | makeFunc fn first caps =>
    cases fn with
    | func f =>
      unfold opA at h; rw [ho] at h; simp only at h
      refine key (makeFunc_local f _ _) h fun ev' H' K' he hf => ?_
      unfold opA
      simp only [ho, hmap (l := first.toList) fun x hx => he x (by simp [Op.operands]; exact .inl (by simpa using hx)), hmap (l := caps.toList) fun x hx => he x (by simp [Op.operands]; exact .inr (by simpa using hx))]
      exact hf
    | _ => unfold opA at h; rw [ho] at h; exact h.elim
  | makeSlice T x y =>
    unfold opA at h; rw [ho] at h; simp only at h
    split at h
    · rename_i d e hd he'
      exact key (makeSlice_local T d e) h fun ev' H' K' he hf => by unfold opA; simp only [ho, he x (by simp [Op.operands]), he y (by simp [Op.operands]), hd, he']; exact hf
    · exact h.elim
  | call c =>
    cases hc : c.callee with
    | value fo =>
      unfold opA at h; rw [ho] at h; simp only [hc] at h
      refine key (callOp_local _ _ _ _) h fun ev' H' K' he hf => ?_
      unfold opA
      simp only [ho, hc, he fo (by simp [Op.operands, Call.operands, hc]), hmap (l := c.args.toList) fun x hx => he x (by simp [Op.operands, Call.operands, hc]; exact .inr (by simpa using hx))]
      exact hf
    | invoke r m => unfold opA at h; rw [ho] at h; simp only [hc] at h
    | builtin b =>
      unfold opA at h; rw [ho] at h; simp only [hc] at h
      refine key (builtin_local b _ _) h fun ev' H' K' he hf => ?_
      unfold opA
      simp only [ho, hc, hmap (l := c.args.toList) fun x hx => he x (by simp [Op.operands, Call.operands, hc]; simpa using hx)]
      exact hf
  | _ => unfold opA at h; rw [ho] at h; exact h.elim
end
end Go.Fw
