/- Framework, part t: regions, in text order. Program independent. -/

import Derived.Test.YtnbfdfmphbehoaaGreatDoorFx
import Derived.Tactics
import Derived.Orders
import Derived.OrdersIn
import Derived.TacticsIn
import Derived.Scope
import Derived.ProofKit
import Derived.OpenShut
import Derived.IntWalk
namespace Go.Fw
open Go.RowKit (Below)
abbrev Eff := DV × Hp × List Nat
def nthO : List Oper → Nat → Option Oper
  | [], _ => none
  | o :: _, 0 => some o
  | _ :: l, i + 1 => nthO l i
theorem nthO_eq (l : List Oper) (i : Nat) : nthO l i = l[i]? := by
  induction l generalizing i with
  | nil => rfl
  | cons o l ih => cases i with
    | zero => rfl
    | succ i => simpa [nthO] using ih i
def dstAt (l : List Oper) (i : Nat) : Option Tmp := match nthO l i with
  | some o => o.dst
  | none => none
theorem dstAt_eq (ops : Array Oper) (i : Nat) : dstAt ops.toList i = (ops[i]?).bind (·.dst) := by
  simp only [dstAt, nthO_eq, Array.getElem?_toList]
  cases ops[i]? <;> rfl
def putE (d : Option Tmp) (r : DV) (E : Env) : Env := match d with
  | none => E
  | some d => (d, some r) :: E
def putF (d : Option Tmp) (r : DV) (E : EF) : EF := match d with
  | none => E
  | some d => fun s => if s = d then some r else E s
theorem Env.get_cons (j : Nat) (b : Option DV) (E : Env) : Env.get ((j, b) :: E) = fun s => if s = j then b else Env.get E s := by
  funext i
  by_cases h : i = j
  · subst h; simp [Env.get]
  · have : Nat.beq i j = false := by
      cases h' : Nat.beq i j
      · rfl
      · exact absurd (Nat.eq_of_beq_eq_true h') h
    simp [Env.get, this, h]
theorem putE_get (d : Option Tmp) (r : DV) (E : Env) : (putE d r E).get = putF d r E.get := by
  cases d with
  | none => rfl
  | some d => exact Env.get_cons _ _ _
def brn (b : Bool) (X Y : Prop) : Prop := match b with
  | true => X
  | false => Y
theorem brn_intro {b : Bool} {X Y : Prop} (h : b = true → X) (h' : b = false → Y) : brn b X Y := by
  cases b
  · exact h' rfl
  · exact h rfl
theorem brn_true {X Y : Prop} (h : X) : brn true X Y := h
theorem brn_false {X Y : Prop} (h : Y) : brn false X Y := h
theorem brn_true' {X Y : Prop} (h : brn true X Y) : X := h
theorem brn_false' {X Y : Prop} (h : brn false X Y) : Y := h
attribute [irreducible] brn
abbrev blit (b : Bool) : DV := lit (.bool b)
abbrev Trace := List (List Nat × List Nat)
def putK (d : Option Tmp) (r : DV) (E : Env) (K : Env → Prop) : Prop := match d with
  | none => K E
  | some d => K ((d, some r) :: E)
def appK : Hp → Hp → (Hp → Prop) → Prop
  | [], H, K => K H
  | p :: u, H, K => appK u H fun H => K (p :: H)
theorem putK_iff {d : Option Tmp} {r : DV} {E : Env} {K : Env → Prop} : putK d r E K ↔ K (putE d r E) := by cases d <;> exact Iff.rfl
theorem appK_iff {u H : Hp} {K : Hp → Prop} : appK u H K ↔ K (u ++ H) := by
  induction u generalizing K with
  | nil => exact Iff.rfl
  | cons p u ih => unfold appK; rw [ih]; exact Iff.rfl
def runO (C : Ctx) (fid : Nat) (o : Oper) (E : Env) (H : Hp) (t : Trace) (k : Env → Hp → Trace → Prop) : Prop :=
  opH C fid o (C.ev E.get) H.get fun r u R => appK u H fun H' => putK o.dst r E fun E' => k E' H' ((R, u.map Prod.fst) :: t)
def skipO (o : Oper) (E : Env) (H : Hp) (t : Trace) (k : Env → Hp → Trace → Prop) : Prop :=
  putK o.dst (.tup []) E fun E' => k E' H (([], []) :: t)
def guardO (C : Ctx) (fid : Nat) (o : Oper) (g : Nat) (want b : Bool) (E : Env) (H : Hp) (t : Trace) (k : Env → Hp → Trace → Prop) : Prop :=
  (b = want ∧ runO C fid o E H t k) ∨ (b = !want ∧ skipO o E H t k) ∨
    (want = true ∧ brn b (runO C fid o ((g, some (blit true)) :: E) H t k) (skipO o ((g, some (blit false)) :: E) H t k)) ∨
    (want = false ∧ brn b (skipO o ((g, some (blit true)) :: E) H t k) (runO C fid o ((g, some (blit false)) :: E) H t k))
def opsA (C : Ctx) (all : List Oper) (n0 : Nat) : List Oper → Nat → Env → Hp → Trace → (Env → Hp → Nat → Trace → Prop) → Prop
  | [], i, E, H, t, K => K E H i t
  | o :: rest, i, E, H, t, K => match o.guard with
    | none => runO C (2 * (n0 + i)) o E H t fun E' H' t' => opsA C all n0 rest (i + 1) E' H' t' K
    | some (j, want) => match dstAt all j with
      | none => False
      | some g => match E.get g with
        | some (.val (false, [.st (.lit (.bool b))])) => guardO C (2 * (n0 + i)) o g want b E H t fun E' H' t' => opsA C all n0 rest (i + 1) E' H' t' K
        | some (.tup []) => skipO o E H t fun E' H' t' => opsA C all n0 rest (i + 1) E' H' t' K
        | _ => False
def guardV (all : List Oper) (E : EF) (o : Oper) : Option Bool := match o.guard with
  | none => some true
  | some (j, want) => match dstAt all j with
    | none => none
    | some g => match E g with
      | some (.val (false, [.st (.lit (.bool b))])) => some (b == want)
      | some (.tup []) => some false
      | _ => none
inductive StepOk (C : Ctx) (all : List Oper) (fid : Nat) (o : Oper) (E : EF) (H : HF) : Eff → Prop
  | run (r : DV) (u : Hp) (R : List Nat) (hg : guardV all E o = some true)
      (h : ∀ (ev' : Operand → Option DV) (H' : HF) (K' : OpK), (∀ x ∈ o.op.operands.toList, ev' x = C.ev E x) → (∀ id ∈ R, H' id = H id) → K' r u R → opH C fid o ev' H' K') : StepOk C all fid o E H (r, u, R)
  | skip (hg : guardV all E o = some false) : StepOk C all fid o E H (.tup [], [], [])
inductive Runs (C : Ctx) (all : List Oper) (n0 : Nat) : List Oper → Nat → EF → HF → List Eff → EF → HF → Prop
  | nil (i : Nat) (E : EF) (H : HF) : Runs C all n0 [] i E H [] E H
  | cons {o : Oper} {rest : List Oper} {i : Nat} {E : EF} {H : HF} {e : Eff} {es : List Eff} {E' : EF} {H' : HF}
      (h : StepOk C all (2 * (n0 + i)) o E H e) (t : Runs C all n0 rest (i + 1) (putF o.dst e.1 E) (e.2.1.on H) es E' H') : Runs C all n0 (o :: rest) i E H (e :: es) E' H'
def traceOf (es : List Eff) (t : Trace) : Trace := es.foldl (fun t e => (e.2.2, e.2.1.map Prod.fst) :: t) t
section
variable {C : Ctx} {all : List Oper} {n0 : Nat}
theorem get_same {E : Env} {g : Nat} {d : DV} (h : E.get g = some d) : Env.get ((g, some d) :: E) = E.get := by
  rw [Env.get_cons]
  funext s
  by_cases hs : s = g
  · subst hs; simp [h]
  · simp [hs]
theorem opsA_runs {rest : List Oper} : ∀ {i : Nat} {E : Env} {H : Hp} {t : Trace} {K : Env → Hp → Nat → Trace → Prop}, opsA C all n0 rest i E H t K →
    ∃ es E' H', Runs C all n0 rest i E.get H.get es E'.get H'.get ∧ K E' H' (i + rest.length) (traceOf es t) := by
  induction rest with
  | nil => intro i E H t K h; exact ⟨[], E, H, .nil _ _ _, h⟩
  | cons o rest ih =>
    intro i E H t K h
    have el : i + 1 + rest.length = i + (o :: rest).length := by simp; omega
    have goRun : ∀ {E0 : Env}, E0.get = E.get → guardV all E.get o = some true → (runO C (2 * (n0 + i)) o E0 H t fun E' H' t' => opsA C all n0 rest (i + 1) E' H' t' K) →
        ∃ es E' H', Runs C all n0 (o :: rest) i E.get H.get es E'.get H'.get ∧ K E' H' (i + (o :: rest).length) (traceOf es t) := by
      intro E0 hE0 hg h
      unfold runO at h
      obtain ⟨r, u, R, h1, h2⟩ := opH_local h
      rw [appK_iff, putK_iff] at h1
      obtain ⟨es, E', H', hr, hK⟩ := ih h1
      rw [el] at hK
      rw [putE_get, Hp.get_append, hE0] at hr
      rw [hE0] at h2
      exact ⟨(r, u, R) :: es, E', H', .cons (.run r u R hg h2) hr, hK⟩
    have goSkip : ∀ {E0 : Env}, E0.get = E.get → guardV all E.get o = some false → (skipO o E0 H t fun E' H' t' => opsA C all n0 rest (i + 1) E' H' t' K) →
        ∃ es E' H', Runs C all n0 (o :: rest) i E.get H.get es E'.get H'.get ∧ K E' H' (i + (o :: rest).length) (traceOf es t) := by
      intro E0 hE0 hg h
      unfold skipO at h
      rw [putK_iff] at h
      obtain ⟨es, E', H', hr, hK⟩ := ih h
      rw [el] at hK
      rw [putE_get, hE0] at hr
      exact ⟨(.tup [], [], []) :: es, E', H', .cons (.skip hg) hr, hK⟩
    unfold opsA at h
    split at h
    · rename_i hg
      exact goRun rfl (by simp [guardV, hg]) h
    · rename_i j want hg
      split at h
      · exact h.elim
      rename_i g hj
      split at h
      · rename_i b hb
        rcases h with ⟨rfl, h⟩ | ⟨rfl, h⟩ | ⟨rfl, h⟩ | ⟨rfl, h⟩
        · exact goRun rfl (by simp [guardV, hg, hj, hb]) h
        · exact goSkip rfl (by simp [guardV, hg, hj, hb]) h
        · cases b
          · exact goSkip (get_same hb) (by simp [guardV, hg, hj, hb]) (brn_false' h)
          · exact goRun (get_same hb) (by simp [guardV, hg, hj, hb]) (brn_true' h)
        · cases b
          · exact goRun (get_same hb) (by simp [guardV, hg, hj, hb]) (brn_false' h)
          · exact goSkip (get_same hb) (by simp [guardV, hg, hj, hb]) (brn_true' h)
      · rename_i hb
        exact goSkip rfl (by simp [guardV, hg, hj, hb]) h
      · exact h.elim
theorem brn_mono {b : Bool} {X Y X' Y' : Prop} (h : brn b X Y) (hx : X → X') (hy : Y → Y') : brn b X' Y' := by
  cases b
  · exact brn_false (hy (brn_false' h))
  · exact brn_true (hx (brn_true' h))
theorem opH_mono {fid : Nat} {o : Oper} {ev : Operand → Option DV} {H : HF} {K K' : OpK} (h : opH C fid o ev H K) (hK : ∀ r u R, K r u R → K' r u R) : opH C fid o ev H K' := by
  obtain ⟨r, u, R, h1, h2⟩ := opH_local h
  exact h2 ev H K' (fun _ _ => rfl) (fun _ _ => rfl) (hK r u R h1)
theorem runO_mono {fid : Nat} {o : Oper} {E : Env} {H : Hp} {t : Trace} {k k' : Env → Hp → Trace → Prop} (h : runO C fid o E H t k) (hk : ∀ E H t, k E H t → k' E H t) : runO C fid o E H t k' := by
  refine opH_mono h fun r u R h => ?_
  rw [appK_iff, putK_iff] at h ⊢
  exact hk _ _ _ h
theorem skipO_mono {o : Oper} {E : Env} {H : Hp} {t : Trace} {k k' : Env → Hp → Trace → Prop} (h : skipO o E H t k) (hk : ∀ E H t, k E H t → k' E H t) : skipO o E H t k' := by
  unfold skipO at h ⊢
  rw [putK_iff] at h ⊢
  exact hk _ _ _ h
theorem opsA_mono {rest : List Oper} : ∀ {i : Nat} {E : Env} {H : Hp} {t : Trace} {K K' : Env → Hp → Nat → Trace → Prop}, opsA C all n0 rest i E H t K → (∀ E H n t, K E H n t → K' E H n t) →
    opsA C all n0 rest i E H t K' := by
  induction rest with
  | nil => intro i E H t K K' h hK; exact hK _ _ _ _ h
  | cons o rest ih =>
    intro i E H t K K' h hK
    unfold opsA at h ⊢
    split at h
    · exact runO_mono h fun _ _ _ h => ih h hK
    · split at h
      · exact h.elim
      split at h
      · rcases h with ⟨e, h⟩ | ⟨e, h⟩ | ⟨e, h⟩ | ⟨e, h⟩
        · exact .inl ⟨e, runO_mono h fun _ _ _ h => ih h hK⟩
        · exact .inr (.inl ⟨e, skipO_mono h fun _ _ _ h => ih h hK⟩)
        · exact .inr (.inr (.inl ⟨e, brn_mono h (fun h => runO_mono h fun _ _ _ h => ih h hK) fun h => skipO_mono h fun _ _ _ h => ih h hK⟩))
        · exact .inr (.inr (.inr ⟨e, brn_mono h (fun h => skipO_mono h fun _ _ _ h => ih h hK) fun h => runO_mono h fun _ _ _ h => ih h hK⟩))
      · exact skipO_mono h fun _ _ _ h => ih h hK
      · exact h.elim
end
structure OpsA (C : Ctx) (all : List Oper) (n0 : Nat) (rest : List Oper) (i : Nat) (E : Env) (H : Hp) (t : Trace) (K : Env → Hp → Nat → Trace → Prop) : Prop where
  out : opsA C all n0 rest i E H t K
structure RunO (C : Ctx) (fid : Nat) (o : Oper) (E : Env) (H : Hp) (t : Trace) (k : Env → Hp → Trace → Prop) : Prop where
  out : runO C fid o E H t k
section
variable {C : Ctx} {all : List Oper} {n0 i fid : Nat} {o : Oper} {rest : List Oper} {E : Env} {H : Hp} {t : Trace} {K : Env → Hp → Nat → Trace → Prop} {k : Env → Hp → Trace → Prop}
theorem oN (h : K E H i t) : OpsA C all n0 [] i E H t K := ⟨h⟩
theorem RunO.go {E : Env} (h : RunO C fid o E H t fun E' H' t' => OpsA C all n0 rest (i + 1) E' H' t' K) : runO C fid o E H t fun E' H' t' => opsA C all n0 rest (i + 1) E' H' t' K :=
  runO_mono h.out fun _ _ _ h => h.out
theorem skipO_rest {E : Env} (h : skipO o E H t fun E' H' t' => OpsA C all n0 rest (i + 1) E' H' t' K) : skipO o E H t fun E' H' t' => opsA C all n0 rest (i + 1) E' H' t' K :=
  skipO_mono h fun _ _ _ h => h.out
theorem oP (hg : o.guard = none) (h : RunO C (2 * (n0 + i)) o E H t fun E' H' t' => OpsA C all n0 rest (i + 1) E' H' t' K) : OpsA C all n0 (o :: rest) i E H t K := by
  refine ⟨?_⟩
  unfold opsA; rw [hg]; exact h.go
theorem oY {g j : Nat} {b : Bool} (hg : o.guard = some (j, b)) (hd : dstAt all j = some g) (hv : E.get g = some (.val (false, [.st (.lit (.bool b))])))
    (h : RunO C (2 * (n0 + i)) o E H t fun E' H' t' => OpsA C all n0 rest (i + 1) E' H' t' K) : OpsA C all n0 (o :: rest) i E H t K := by
  refine ⟨?_⟩
  unfold opsA; simp only [hg, hd, hv]; exact .inl ⟨rfl, h.go⟩
theorem oZ {g j : Nat} {b : Bool} (hg : o.guard = some (j, b)) (hd : dstAt all j = some g) (hv : E.get g = some (.val (false, [.st (.lit (.bool (!b)))])))
    (h : skipO o E H t fun E' H' t' => OpsA C all n0 rest (i + 1) E' H' t' K) : OpsA C all n0 (o :: rest) i E H t K := by
  refine ⟨?_⟩
  unfold opsA; simp only [hg, hd, hv]; exact .inr (.inl ⟨rfl, skipO_rest h⟩)
theorem oO {g j : Nat} {b : Bool} (hg : o.guard = some (j, b)) (hd : dstAt all j = some g) (hv : E.get g = some (.tup []))
    (h : skipO o E H t fun E' H' t' => OpsA C all n0 rest (i + 1) E' H' t' K) : OpsA C all n0 (o :: rest) i E H t K := by
  refine ⟨?_⟩
  unfold opsA; simp only [hg, hd, hv]; exact skipO_rest h
theorem opsA_if {g j : Nat} {b : Bool} (hg : o.guard = some (j, true)) (hd : dstAt all j = some g) (hv : E.get g = some (.val (false, [.st (.lit (.bool b))])))
    (h : b = true → RunO C (2 * (n0 + i)) o ((g, some (blit true)) :: E) H t fun E' H' t' => OpsA C all n0 rest (i + 1) E' H' t' K)
    (h' : b = false → skipO o ((g, some (blit false)) :: E) H t fun E' H' t' => OpsA C all n0 rest (i + 1) E' H' t' K) : OpsA C all n0 (o :: rest) i E H t K := by
  refine ⟨?_⟩
  unfold opsA; simp only [hg, hd, hv]; exact .inr (.inr (.inl ⟨rfl, brn_intro (fun e => (h e).go) fun e => skipO_rest (h' e)⟩))
theorem opsA_unless {g j : Nat} {b : Bool} (hg : o.guard = some (j, false)) (hd : dstAt all j = some g) (hv : E.get g = some (.val (false, [.st (.lit (.bool b))])))
    (h : b = true → skipO o ((g, some (blit true)) :: E) H t fun E' H' t' => OpsA C all n0 rest (i + 1) E' H' t' K)
    (h' : b = false → RunO C (2 * (n0 + i)) o ((g, some (blit false)) :: E) H t fun E' H' t' => OpsA C all n0 rest (i + 1) E' H' t' K) : OpsA C all n0 (o :: rest) i E H t K := by
  refine ⟨?_⟩
  unfold opsA; simp only [hg, hd, hv]; exact .inr (.inr (.inr ⟨rfl, brn_intro (fun e => skipO_rest (h e)) fun e => (h' e).go⟩))
theorem rG {r : DV} {u : Hp} {R : List Nat} (h1 : ∀ K : OpK, K r u R → opA C fid o (C.ev E.get) H.get K)
    (h2 : appK u H fun H' => putK o.dst r E fun E' => k E' H' ((R, u.map Prod.fst) :: t)) : RunO C fid o E H t k := ⟨.inl (h1 _ h2)⟩
theorem rGH {r : DV} {u : Hp} {R : List Nat} (h1 : ∀ K : OpK, K r u R → hcA C fid o (C.ev E.get) H.get K)
    (h2 : appK u H fun H' => putK o.dst r E fun E' => k E' H' ((R, u.map Prod.fst) :: t)) : RunO C fid o E H t k := ⟨.inr (.inr (h1 _ h2))⟩
theorem rGX {P : Prop} {r : DV} {u : Hp} {R : List Nat} (h1 : effX C fid o (C.ev E.get) H.get = some (P, r, u, R)) (hP : P)
    (h2 : appK u H fun H' => putK o.dst r E fun E' => k E' H' ((R, u.map Prod.fst) :: t)) : RunO C fid o E H t k := ⟨.inr (.inl (by unfold opX; rw [h1]; exact ⟨hP, h2⟩))⟩
end
structure DefersOk (B : Nat) (l : List Deferred) (w : World) : Prop where
  all : ∀ d ∈ l, ∃ D, d = { target := .collected D, args := #[] } ∧ w.heap[D]? = some (.deferred (some [])) ∧ B ≤ D
  nodup : l.Nodup
theorem DefersOk.nil (B : Nat) (w : World) : DefersOk B [] w := ⟨by simp, List.nodup_nil⟩
theorem DefersOk.keep {B : Nat} {l : List Deferred} {w w' : World} (h : DefersOk B l w) (k : ∀ (k : Nat) (x : Option (List Deferred)), w.heap[k]? = some (.deferred x) → w'.heap[k]? = some (.deferred x)) : DefersOk B l w' :=
  ⟨fun d hd => let ⟨D, h1, h2, h3⟩ := h.all d hd; ⟨D, h1, k D _ h2, h3⟩, h.nodup⟩
def Fix.okD (F : Fix) (nt t : Nat) : Prop := t < nt ∧ ∀ p ∈ F.fixed, p.1 ≠ t
structure RelN (F : Fix) (nt : Nat) (E : EF) (H : HF) (N : Nat → Prop) (a : Act) (w : World) : Prop where
  size : a.tmps.size = nt
  defers : DefersOk F.db a.defers w
  fix : ∀ p ∈ F.fixed, a.tmps.getD p.1 undef = p.2
  rel : ∃ β, EnvRel F β N H w E a ∧ HeapRel F β N H w
section
variable {C : Ctx} {F : Fix} {nt : Nat} {E : EF} {H : HF} {N : Nat → Prop} {a : Act} {w : World} {ops : Array Oper} {o : Oper} {fid : Nat} {e : Eff} {Q : Exit → Act → World → Prop} {K : Act → World → Prop}
theorem guardV_wanted {β : Nat → Option Nat} (hE : EnvRel F β N H w E a) {b : Bool} (h : guardV ops.toList E o = some b) : Region.wanted o (yielded ops a.tmps) = b := by
  unfold guardV at h
  unfold Region.wanted
  split at h
  · rename_i hg; simp only [hg]; simpa using h
  · rename_i j want hg
    simp only [hg]
    split at h
    · cases h
    rename_i g hj
    rw [dstAt_eq] at hj
    unfold yielded
    rw [hj]
    simp only [Option.bind_some]
    split at h
    · rename_i c hc
      have := hE g _ hc
      have hv := (RepDX.one_inv this).lit_inv.1
      have hlt : a.tmps[g]? = some (.bool c) := by
        rw [Array.getD_eq_getD_getElem?] at hv
        cases h' : a.tmps[g]? with
        | none => rw [h'] at hv; cases hv
        | some x => rw [h'] at hv; simp at hv; rw [hv]
      rw [hlt]
      simp only [Option.some.injEq] at h
      rw [← h]
      cases c <;> cases want <;> rfl
    · rename_i hc
      obtain ⟨arr, h1, h2, _⟩ := hE g _ hc
      simp only [Option.some.injEq] at h
      rw [← h]
      rw [Array.getD_eq_getD_getElem?] at h1
      cases h' : a.tmps[g]? with
      | none => rfl
      | some x => rw [h'] at h1; simp at h1; subst h1; rfl
    · cases h
theorem EnvRel.put {β : Nat → Option Nat} {d : Option Tmp} {v : Value} {r : DV} (hE : EnvRel F β N H w E a) (hv : RepDV F β N H w v r) (hd : ∀ t, d = some t → t < a.tmps.size) :
    EnvRel F β N H w (putF d r E) (a.put d v) := by
  cases d with
  | none => exact hE
  | some d =>
    intro s dv hs
    simp only [putF] at hs
    have hlt := hd d rfl
    by_cases h : s = d
    · subst h
      simp at hs; subst hs
      simp [Act.put, hlt]; exact hv
    · rw [if_neg h] at hs
      have := hE s dv hs
      have e : (a.put (some d) v).tmps.getD s undef = a.tmps.getD s undef := by
        simp [Act.put, Array.getElem?_setIfInBounds_ne (Ne.symm h)]
      rw [e]; exact this
theorem put_size (a : Act) (d : Option Tmp) (v : Value) : (a.put d v).tmps.size = a.tmps.size := by cases d <;> simp [Act.put]
theorem put_fix {F : Fix} {a : Act} (h : ∀ p ∈ F.fixed, a.tmps.getD p.1 undef = p.2) (d : Option Tmp) (v : Value) (hd : ∀ t, d = some t → ∀ p ∈ F.fixed, p.1 ≠ t) : ∀ p ∈ F.fixed, (a.put d v).tmps.getD p.1 undef = p.2 := by
  intro p hp
  cases d with
  | none => exact h p hp
  | some t =>
    have := hd t rfl p hp
    rw [← h p hp]
    simp [Act.put, Array.getElem?_setIfInBounds_ne (Ne.symm this)]
theorem put_defers (a : Act) (d : Option Tmp) (v : Value) : (a.put d v).defers = a.defers := by cases d <;> rfl
theorem step_ok (hC : C.Ok) (hG : Globs C F) (hd : ∀ t, o.dst = some t → F.okD nt t) {E0 : EF} {H0 : HF} (h : StepOk C ops.toList fid o E0 H0 e)
    (hop : ∀ x ∈ o.op.operands.toList, C.ev E x = C.ev E0 x) (hgd : guardV ops.toList E o = guardV ops.toList E0 o) (hrd : ∀ id ∈ e.2.2, H id = H0 id)
    (hrel : RelN F nt E H N a w) (hf : ∀ id, N id → tag id ≠ tag fid)
    (hK : ∀ a' w', RelN F nt (putF o.dst e.1 E) (e.2.1.on H) (setN N fid) a' w' → K a' w') :
    if Region.wanted o (yielded ops a.tmps) then o.wp C.P a w K Q ∨ (o.asks C.P a w ∧ LetsOut Q) else K (a.put o.dst undef) w := by
  obtain ⟨hs, hdf, hfx, β, hE, hR⟩ := hrel
  cases h with
  | run r u R hg h =>
    rw [guardV_wanted hE (hgd.trans hg)]
    simp only [if_true]
    refine .inl ?_
    have h1 := h (C.ev E) H (fun r' u' R' => r' = r ∧ u' = u ∧ R' = R) hop hrd ⟨rfl, rfl, rfl⟩
    refine Oper.wp_mono ?_ (opH_sound (Q := Q) hC hG hR hf hE h1)
    rintro a' w' ⟨v, rfl, β', r', u', R', ⟨rfl, rfl, rfl⟩, ht, hR', hv⟩
    exact hK _ _ ⟨by rw [put_size]; exact hs, by rw [put_defers]; exact hdf.keep ht.others, put_fix hfx _ _ fun t e => (hd t e).2, β', (ht.env hR hE).put hv (by rw [hs]; exact fun t e => (hd t e).1), hR'⟩
  | skip hg =>
    rw [guardV_wanted hE (hgd.trans hg)]
    simp only [Bool.false_eq_true, if_false]
    refine hK _ _ ⟨by rw [put_size]; exact hs, by rw [put_defers]; exact hdf, put_fix hfx _ _ fun t e => (hd t e).2, β, ?_, hR.setN⟩
    refine EnvRel.put (fun s dv h => (hE s dv h).setN) ?_ (by rw [hs]; exact fun t e => (hd t e).1)
    exact ⟨#[], rfl, rfl, by simp⟩
theorem runs_text (hC : C.Ok) (hG : Globs C F) {n0 : Nat} {rest : List Oper} {es : List Eff} {E' : EF} {H' : HF} : ∀ {i : Nat} {E : EF} {H : HF} {N : Nat → Prop} {a : Act} {w : World}, Runs C ops.toList n0 rest i E H es E' H' →
    (∀ o ∈ rest, ∀ t, o.dst = some t → F.okD nt t) → RelN F nt E H N a w → (∀ id, N id → tag id < n0 + i) →
    (∀ a' w' N', RelN F nt E' H' N' a' w' → (∀ id, N' id → tag id < n0 + (i + rest.length)) → Q .normal a' w') → wpList C.P ops Q rest a w := by
  induction rest generalizing es with
  | nil =>
    intro i E H N a w h _ hrel hN hQ
    cases h
    exact hQ a w N hrel hN
  | cons o rest ih =>
    intro i E H N a w h hd hrel hN hQ
    cases h with
    | cons h t =>
      unfold wpList
      refine step_ok hC hG (hd o List.mem_cons_self) h (fun _ _ => rfl) rfl (fun _ _ => rfl) hrel (fun id hn => by have := hN _ hn; rw [tag_even]; omega) ?_
      intro a' w' hrel'
      refine ih t (fun o' ho' => hd o' (List.mem_cons_of_mem _ ho')) hrel' ?_ ?_
      · rintro id (hn | hn)
        · have := hN id hn; omega
        · rw [tag_even] at hn; omega
      · intro a'' w'' N' hr hn
        exact hQ a'' w'' N' hr fun id hid => by have := hn id hid; simp only [List.length_cons]; omega
end
end Go.Fw
namespace Go.Fw
open Go.RowKit (Below)
section
variable {α : Type} (upd : Nat → (Nat → α) → Nat → α) (wr : Nat → Nat → Prop) (f0 : Nat → α)
structure LogOk : Prop where
  same : ∀ i k f g, wr i k → upd i f k = upd i g k
  other : ∀ i k f, ¬ wr i k → upd i f k = f k
def foldX (X : Nat → Bool) : Nat → Nat → α
  | 0 => f0
  | n + 1 => if X n then upd n (foldX X n) else foldX X n
variable {upd wr f0}
theorem foldX_agree (h : LogOk upd wr) {X Y : Nat → Bool} {k : Nat} : ∀ {n : Nat}, (∀ i, i < n → wr i k → X i = Y i) → foldX upd f0 X n k = foldX upd f0 Y n k
  | 0, _ => rfl
  | n + 1, hXY => by
    have ih := foldX_agree h (n := n) fun i hi => hXY i (by omega)
    have upd' : ∀ f g : Nat → α, f k = g k → upd n f k = upd n g k := fun f g e => by
      by_cases hw : wr n k
      · exact h.same _ _ _ _ hw
      · rw [h.other _ _ _ hw, h.other _ _ _ hw, e]
    simp only [foldX]
    by_cases hw : wr n k
    · rw [hXY n (by omega) hw]
      split
      · exact h.same _ _ _ _ hw
      · exact ih
    · split <;> split
      · exact upd' _ _ ih
      · rw [h.other _ _ _ hw, ih]
      · rw [h.other _ _ _ hw, ih]
      · exact ih
theorem foldX_lt (j : Nat) : ∀ {n : Nat}, j ≤ n → foldX upd f0 (fun i => decide (i < j)) n = foldX upd f0 (fun _ => true) j := by
  have h1 : ∀ n, n ≤ j → foldX upd f0 (fun i => decide (i < j)) n = foldX upd f0 (fun _ => true) n := by
    intro n
    induction n with
    | zero => intro _; rfl
    | succ n ih => intro hn; simp only [foldX, if_true]; rw [if_pos (by simp; omega), ih (by omega)]
  intro n hn
  induction n with
  | zero => rw [h1 0 (by omega)]; congr 1; omega
  | succ n ih =>
    by_cases e : j = n + 1
    · subst e; exact h1 _ (Nat.le_refl _)
    · simp only [foldX]
      rw [if_neg (by simp; omega)]
      exact ih (by omega)
def addX (X : Nat → Bool) (j : Nat) : Nat → Bool := fun i => if i = j then true else X i
theorem foldX_add (h : LogOk upd wr) {X : Nat → Bool} {j n : Nat} (hj : j < n) (hX : X j = false) (hno : ∀ i, j < i → i < n → X i = true → ∀ k, wr i k → wr j k → False) :
    foldX upd f0 (addX X j) n = upd j (foldX upd f0 X n) := by
  funext k
  by_cases hw : wr j k
  · have key : ∀ m, j < m → m ≤ n → ∃ g, foldX upd f0 (addX X j) m k = upd j g k := by
      intro m
      induction m with
      | zero => intro h; omega
      | succ m ih =>
        intro hm hmn
        simp only [foldX]
        by_cases e : m = j
        · subst e; rw [if_pos (by simp [addX])]; exact ⟨_, rfl⟩
        · obtain ⟨g, hg⟩ := ih (by omega) (by omega)
          split
          · rename_i hx
            have hx : X m = true := by simpa [addX, e] using hx
            rw [h.other _ _ _ fun hm' => hno m (by omega) (by omega) hx k hm' hw]
            exact ⟨g, hg⟩
          · exact ⟨g, hg⟩
    obtain ⟨g, hg⟩ := key n hj (Nat.le_refl _)
    rw [hg]; exact h.same _ _ _ _ hw
  · rw [h.other _ _ _ hw]
    refine foldX_agree h fun i hi hwi => ?_
    have : i ≠ j := fun e => hw (e ▸ hwi)
    simp [addX, this]
end
def edgesOf (o : Oper) : List Nat := (o.after.toList.filter (Region.binds .any)).map (·.on)
def ordered (all : List Oper) : Nat → Nat → Nat → Bool
  | 0, _, _ => false
  | f + 1, i, j => match nthO all j with
    | none => false
    | some o => (edgesOf o).any (fun k => Nat.beq k i) || (edgesOf o).any fun k => Nat.blt i k && ordered all f i k
def tmpsL : List Operand → List Tmp
  | [] => []
  | .tmp t :: l => t :: tmpsL l
  | _ :: l => tmpsL l
def opsL : Op → List Operand
  | .build _ ps => ps.toList.map (·.2)
  | .buildSlice _ _ ps => ps.toList.map (·.2)
  | .makeFunc _ first captured => first.toList ++ captured.toList
  | .slice _ x l h m => x :: (l.toList ++ h.toList ++ m.toList)
  | .call c => (match c.callee with | .value f => [f] | .invoke r _ => [r] | .builtin _ => []) ++ c.args.toList
  | op => op.operands.toList
theorem opsL_eq (op : Op) : opsL op = op.operands.toList := by
  cases op <;> first
    | rfl
    | (simp [opsL, Op.operands]; done)
    | (rename_i c; simp only [opsL, Op.operands, Call.operands]; cases c.callee <;> simp)
def looks (all : List Oper) (o : Oper) : List Tmp := tmpsL (opsL o.op) ++ (match o.guard with
  | some (g, _) => (dstAt all g).toList
  | none => [])
def hitE (all : List Oper) (x y : Oper) : Bool := match x.dst with
  | some d => (looks all y).any (fun t => Nat.beq t d) || (match y.dst with
    | some e => Nat.beq e d
    | none => false)
  | none => false
def meets (a b : List Nat) : Bool := a.any fun i => b.any fun j => Nat.beq i j
def hitM (x y : List Nat × List Nat) : Bool := meets x.2 y.1 || meets x.2 y.2
def nthT : Trace → Nat → List Nat × List Nat
  | [], _ => ([], [])
  | x :: _, 0 => x
  | _ :: l, i + 1 => nthT l i
def pairsOk (all : List Oper) (tr : Trace) (j : Nat) (oj : Oper) (tj : List Nat × List Nat) : Nat → List Oper → Bool
  | _, [] => true
  | i, o :: l => match Nat.blt i j with
    | false => true
    | true => (!(hitE all o oj || hitE all oj o || hitM (nthT tr i) tj || hitM tj (nthT tr i)) || ordered all 6 i j) && pairsOk all tr j oj tj (i + 1) l
def drawGo (all : List Oper) (tr : Trace) : Nat → List Oper → Bool
  | _, [] => true
  | j, o :: l => (edgesOf o).all (fun k => Nat.blt k j) && pairsOk all tr j o (nthT tr j) 0 all && drawGo all tr (j + 1) l
def drawOk (all : List Oper) (t : Trace) : Bool := drawGo all t.reverse 0 all
theorem nthT_eq (t : Trace) (i : Nat) : nthT t i = t.getD i ([], []) := by
  induction t generalizing i with
  | nil => rfl
  | cons x l ih => cases i with
    | zero => rfl
    | succ i => simpa [nthT] using ih i
theorem pairsOk_spec {all : List Oper} {tr : Trace} {j : Nat} {oj : Oper} {tj : List Nat × List Nat} : ∀ {l : List Oper} {k : Nat}, pairsOk all tr j oj tj k l = true →
    ∀ i o, l[i]? = some o → k + i < j → (hitE all o oj || hitE all oj o || hitM (nthT tr (k + i)) tj || hitM tj (nthT tr (k + i))) = true → ordered all 6 (k + i) j = true
  | [], _, _, i, o, h, _, _ => by simp at h
  | x :: l, k, h, i, o, hi, hlt, hh => by
    unfold pairsOk at h
    have hk : Nat.blt k j = true := by simp [Nat.blt_eq]; omega
    rw [hk] at h
    simp only [Bool.and_eq_true] at h
    cases i with
    | zero =>
      simp only [List.getElem?_cons_zero, Option.some.injEq] at hi
      subst hi
      rw [Nat.add_zero] at hh ⊢
      have := h.1
      rw [hh] at this
      simpa using this
    | succ i =>
      have e : k + (i + 1) = (k + 1) + i := by omega
      rw [e] at hh ⊢
      exact pairsOk_spec h.2 i o (by simpa using hi) (by omega) hh
theorem drawGo_spec {all : List Oper} {tr : Trace} : ∀ {l : List Oper} {k : Nat}, drawGo all tr k l = true → ∀ j o, l[j]? = some o →
    (∀ e ∈ edgesOf o, e < k + j) ∧ pairsOk all tr (k + j) o (nthT tr (k + j)) 0 all = true
  | [], _, _, i, o, h => by simp at h
  | x :: l, k, h, j, o, hj => by
    unfold drawGo at h
    simp only [Bool.and_eq_true, List.all_eq_true, Nat.blt_eq] at h
    cases j with
    | zero =>
      simp only [List.getElem?_cons_zero, Option.some.injEq] at hj
      subst hj
      exact ⟨h.1.1, h.1.2⟩
    | succ j =>
      have e : k + (j + 1) = (k + 1) + j := by omega
      rw [e]
      exact drawGo_spec h.2 j o (by simpa using hj)
theorem mem_edgesOf {o : Oper} {e : Edge} (he : e ∈ o.after) (hb : Region.binds .any e = true) : e.on ∈ edgesOf o :=
  List.mem_map.2 ⟨e, List.mem_filter.2 ⟨by simpa using he, hb⟩, rfl⟩
theorem edgesOf_mem {o : Oper} {k : Nat} (h : k ∈ edgesOf o) : ∃ e ∈ o.after, Region.binds .any e = true ∧ e.on = k := by
  obtain ⟨e, he, rfl⟩ := List.mem_map.1 h
  obtain ⟨h1, h2⟩ := List.mem_filter.1 he
  exact ⟨e, by simpa using h1, h2, rfl⟩
theorem ordered_listed {all : List Oper} {X : Nat → Bool} (hcl : ∀ j o, all[j]? = some o → X j = true → ∀ k ∈ edgesOf o, X k = true) :
    ∀ {f i j : Nat}, ordered all f i j = true → (∀ o, all[j]? = some o → ∀ k ∈ edgesOf o, X k = true) → X i = true
  | 0, _, _, h, _ => by simp [ordered] at h
  | f + 1, i, j, h, hj => by
    unfold ordered at h
    rw [nthO_eq] at h
    split at h
    · cases h
    · rename_i o ho
      simp only [Bool.or_eq_true, List.any_eq_true, Bool.and_eq_true] at h
      rcases h with ⟨k, hk, he⟩ | ⟨k, hk, _, he⟩
      · rw [← Nat.eq_of_beq_eq_true he]; exact hj o ho k hk
      · exact ordered_listed hcl he fun o' ho' => hcl k o' ho' (hj o ho k hk)
def unlisted (X : Nat → Bool) : Nat → Nat
  | 0 => 0
  | n + 1 => unlisted X n + if X n then 0 else 1
theorem unlisted_same {X : Nat → Bool} {j : Nat} : ∀ {n : Nat}, n ≤ j → unlisted (addX X j) n = unlisted X n
  | 0, _ => rfl
  | n + 1, h => by
    simp only [unlisted]
    rw [unlisted_same (by omega)]
    have : n ≠ j := by omega
    simp [addX, this]
theorem unlisted_add {X : Nat → Bool} {j : Nat} (hX : X j = false) : ∀ {n : Nat}, j < n → unlisted (addX X j) n + 1 = unlisted X n
  | 0, h => by omega
  | n + 1, h => by
    simp only [unlisted]
    by_cases e : n = j
    · subst e
      rw [unlisted_same (Nat.le_refl _)]
      simp [addX, hX]
    · have := unlisted_add hX (n := n) (by omega)
      have e' : addX X j n = X n := by simp [addX, e]
      rw [e']; omega
theorem unlisted_zero {X : Nat → Bool} : ∀ {n : Nat}, unlisted X n = 0 → ∀ i, i < n → X i = true
  | 0, _, i, h => by omega
  | n + 1, h, i, hi => by
    simp only [unlisted] at h
    by_cases e : i = n
    · subst e
      cases hx : X i
      · simp [hx] at h
      · rfl
    · exact unlisted_zero (n := n) (by omega) i (by omega)
theorem unlisted_false (n : Nat) : unlisted (fun _ => false) n = n := by
  induction n with
  | zero => rfl
  | succ n ih => simp [unlisted, ih]
def effAt (es : List Eff) (i : Nat) : Eff := es.getD i (.tup [], [], [])
def updEnv (l : List Oper) (es : List Eff) (i : Nat) (E : EF) : EF := putF (dstAt l i) (effAt es i).1 E
def wrEnv (l : List Oper) (i k : Nat) : Prop := dstAt l i = some k
def updHeap (es : List Eff) (i : Nat) (H : HF) : HF := (effAt es i).2.1.on H
def wrHeap (es : List Eff) (i k : Nat) : Prop := k ∈ (effAt es i).2.1.map Prod.fst
theorem logEnv (l : List Oper) (es : List Eff) : LogOk (updEnv l es) (wrEnv l) where
  same := fun i k f g h => by unfold updEnv; unfold wrEnv at h; rw [h]; simp [putF]
  other := fun i k f h => by
    unfold updEnv; unfold wrEnv at h
    cases hd : dstAt l i with
    | none => rfl
    | some d =>
      have : k ≠ d := fun e => h (by rw [hd, e])
      simp [putF, this]
theorem on_same {u : Hp} {k : Nat} (f g : HF) (h : k ∈ u.map Prod.fst) : u.on f k = u.on g k := by
  induction u with
  | nil => simp at h
  | cons p u ih =>
    show updH _ _ _ k = updH _ _ _ k
    unfold updH
    by_cases e : k = p.1
    · simp [e]
    · rw [if_neg e, if_neg e]
      exact ih (by simpa [e] using h)
theorem on_other {u : Hp} {k : Nat} (f : HF) (h : k ∉ u.map Prod.fst) : u.on f k = f k := by
  induction u with
  | nil => rfl
  | cons p u ih =>
    show updH _ _ _ k = _
    unfold updH
    simp only [List.map_cons, List.mem_cons, not_or] at h
    rw [if_neg h.1]
    exact ih h.2
theorem logHeap (es : List Eff) : LogOk (updHeap es) (wrHeap es) where
  same := fun _ _ f g h => on_same f g h
  other := fun _ _ f h => on_other f h
theorem runs_logs {C : Ctx} {all : List Oper} {n0 : Nat} {E0 : EF} {H0 : HF} {es0 : List Eff} : ∀ {rest : List Oper} {i : Nat} {es : List Eff} {E : EF} {H : HF} {E' : EF} {H' : HF}, Runs C all n0 rest i E H es E' H' →
    (∀ k, rest[k]? = all[i + k]?) → (∀ k, es[k]? = es0[i + k]?) → E = foldX (updEnv all es0) E0 (fun _ => true) i → H = foldX (updHeap es0) H0 (fun _ => true) i →
    (∀ k o, rest[k]? = some o → StepOk C all (2 * (n0 + (i + k))) o (foldX (updEnv all es0) E0 (fun _ => true) (i + k)) (foldX (updHeap es0) H0 (fun _ => true) (i + k)) (effAt es0 (i + k))) ∧
      E' = foldX (updEnv all es0) E0 (fun _ => true) (i + rest.length) ∧ H' = foldX (updHeap es0) H0 (fun _ => true) (i + rest.length) := by
  intro rest
  induction rest with
  | nil => intro i es E H E' H' h _ _ hE hH; cases h; exact ⟨by simp, hE, hH⟩
  | cons o rest ih =>
    intro i es E H E' H' h hr he hE hH
    cases h with
    | @cons _ _ _ _ _ e es _ _ h t =>
      have h0 : es0[i]? = some e := by simpa using (he 0).symm
      have heff : effAt es0 i = e := by simp [effAt, h0]
      have hd : dstAt all i = o.dst := by
        have : all[i]? = some o := by simpa using (hr 0).symm
        simp [dstAt, nthO_eq, this]
      obtain ⟨h1, h2, h3⟩ := ih t (fun k => by have := hr (k + 1); simpa [Nat.add_assoc, Nat.add_comm 1 k] using this) (fun k => by have := he (k + 1); simpa [Nat.add_assoc, Nat.add_comm 1 k] using this)
        (by simp only [foldX, if_true]; rw [← hE]; simp only [updEnv]; rw [hd, heff]) (by simp only [foldX, if_true]; rw [← hH]; simp only [updHeap]; rw [heff])
      refine ⟨fun k o' hk => ?_, ?_, ?_⟩
      · cases k with
        | zero =>
          simp at hk; subst hk
          rw [Nat.add_zero, heff, ← hE, ← hH]; exact h
        | succ k =>
          have := h1 k o' (by simpa using hk)
          have e : i + (k + 1) = i + 1 + k := by omega
          rw [e]; exact this
      · rw [h2]; congr 1; simp; omega
      · rw [h3]; congr 1; simp; omega
theorem traceOf_eq (es : List Eff) (t : Trace) : traceOf es t = (es.map fun e => (e.2.2, e.2.1.map Prod.fst)).reverse ++ t := by
  unfold traceOf
  induction es generalizing t with
  | nil => rfl
  | cons e es ih => simp [ih]
theorem nthT_trace {es : List Eff} {i : Nat} : nthT (traceOf es []).reverse i = ((effAt es i).2.2, (effAt es i).2.1.map Prod.fst) := by
  rw [traceOf_eq, nthT_eq]
  simp only [List.append_nil, List.reverse_reverse, effAt, List.getD_eq_getElem?_getD, List.getElem?_map]
  cases es[i]? <;> rfl
theorem meets_iff {a b : List Nat} : meets a b = true ↔ ∃ k, k ∈ a ∧ k ∈ b := by
  simp only [meets, List.any_eq_true]
  constructor
  · rintro ⟨i, hi, j, hj, e⟩; exact ⟨i, hi, by rw [Nat.eq_of_beq_eq_true e]; exact hj⟩
  · rintro ⟨k, h1, h2⟩; exact ⟨k, h1, k, h2, Nat.beq_refl k⟩
theorem mem_tmpsL {l : List Operand} {t : Tmp} (h : .tmp t ∈ l) : t ∈ tmpsL l := by
  induction l with
  | nil => cases h
  | cons x l ih =>
    rcases List.mem_cons.1 h with rfl | h'
    · simp [tmpsL]
    · have := ih (by assumption)
      cases x <;> simp [tmpsL, this]
section
variable {C : Ctx} {F : Fix} {nt : Nat} {ops : Array Oper} {Q : Exit → Act → World → Prop}
def NX (N0 : Nat → Prop) (n0 n : Nat) (X : Nat → Bool) (id : Nat) : Prop := N0 id ∨ ∃ i, i < n ∧ X i = true ∧ tag id = n0 + i
theorem runs_any (hC : C.Ok) (hG : Globs C F) {n0 : Nat} {es : List Eff} {E0 E' : EF} {H0 H' : HF} {N0 : Nat → Prop} {a : Act} {w : World} (h : Runs C ops.toList n0 ops.toList 0 E0 H0 es E' H')
    (hdr : drawOk ops.toList (traceOf es []) = true) (hd : ∀ o ∈ ops.toList, ∀ t, o.dst = some t → F.okD nt t) (hrel : RelN F nt E0 H0 N0 a w) (hN : ∀ id, N0 id → tag id < n0)
    (hQ : ∀ a' w' N', RelN F nt E' H' N' a' w' → (∀ id, N' id → tag id < n0 + ops.size) → Q .normal a' w') : wpAny C.P .any ops Q ops.size (Array.replicate ops.size false) a w := by
  obtain ⟨hst, hE', hH'⟩ := runs_logs (es0 := es) h (by simp) (by simp) rfl rfl
  simp only [Nat.zero_add, Array.length_toList] at hst hE' hH'
  have hlE := logEnv ops.toList es
  have hlH := logHeap es
  have hord : ∀ i j, i < j → j < ops.size → (∃ oi oj, ops[i]? = some oi ∧ ops[j]? = some oj ∧ (hitE ops.toList oi oj || hitE ops.toList oj oi ||
      hitM ((effAt es i).2.2, (effAt es i).2.1.map Prod.fst) ((effAt es j).2.2, (effAt es j).2.1.map Prod.fst) || hitM ((effAt es j).2.2, (effAt es j).2.1.map Prod.fst) ((effAt es i).2.2, (effAt es i).2.1.map Prod.fst)) = true) → ordered ops.toList 6 i j = true := by
    rintro i j hij hj ⟨oi, oj, hoi, hoj, hh⟩
    have h1 := (drawGo_spec hdr j oj (by simpa using hoj)).2
    rw [Nat.zero_add] at h1
    have h2 := pairsOk_spec h1 i oi (by simpa using hoi) (by omega)
    rw [Nat.zero_add, nthT_trace, nthT_trace] at h2
    exact h2 hh
  have hedge : ∀ j o, ops[j]? = some o → ∀ e ∈ edgesOf o, e < j := fun j o ho => by
    have := (drawGo_spec hdr j o (by simpa using ho)).1
    simpa using this
  have hdst : ∀ i o, ops[i]? = some o → dstAt ops.toList i = o.dst := fun i o ho => by rw [dstAt_eq, ho]; rfl
  have main : ∀ (fuel : Nat) (X : Nat → Bool) (listed : Array Bool) (a : Act) (w : World), listed.size = ops.size → (∀ i, i < ops.size → listed.getD i true = X i) →
      (∀ j o, ops.toList[j]? = some o → X j = true → ∀ k ∈ edgesOf o, X k = true) → unlisted X ops.size ≤ fuel →
      RelN F nt (foldX (updEnv ops.toList es) E0 X ops.size) (foldX (updHeap es) H0 X ops.size) (NX N0 n0 ops.size X) a w → wpAny C.P .any ops Q fuel listed a w := by
    have hend : ∀ (X : Nat → Bool) (listed : Array Bool) (a : Act) (w : World), listed.size = ops.size → (∀ i, i < ops.size → listed.getD i true = X i) →
        Region.ready .any ops listed = [] → RelN F nt (foldX (updEnv ops.toList es) E0 X ops.size) (foldX (updHeap es) H0 X ops.size) (NX N0 n0 ops.size X) a w → Q .normal a w := by
      intro X listed a w hls hX hr hrel
      have hall : ∀ i, i < ops.size → X i = true := by
        intro i
        induction i using Nat.strongRecOn with
        | _ i ih =>
          intro hi
          cases hx : X i
          · exfalso
            have : i ∈ Region.ready .any ops listed := by
              rw [mem_ready]
              refine ⟨by rw [hX i hi]; exact hx, ops[i], by simp [hi], fun e he hb => ?_⟩
              have hlt := hedge i ops[i] (by simp [hi]) e.on (mem_edgesOf he hb)
              have h1 := hX e.on (by omega)
              rw [ih e.on hlt (by omega)] at h1
              have : e.on < listed.size := by omega
              simpa [this] using h1
            rw [hr] at this; cases this
          · rfl
      have e1 : foldX (updEnv ops.toList es) E0 X ops.size = E' := by
        rw [hE']; funext k; exact foldX_agree hlE fun i hi _ => hall i hi
      have e2 : foldX (updHeap es) H0 X ops.size = H' := by
        rw [hH']; funext k; exact foldX_agree hlH fun i hi _ => hall i hi
      rw [e1, e2] at hrel
      refine hQ a w _ hrel ?_
      rintro id (hn | ⟨i, hi, _, e⟩)
      · have := hN id hn; omega
      · omega
    intro fuel
    induction fuel with
    | zero =>
      intro X listed a w hls hX hcl hu hrel
      have hr : Region.ready .any ops listed = [] := by
        rw [List.eq_nil_iff_forall_not_mem]
        intro j hj
        obtain ⟨h0, o, ho, _⟩ := mem_ready.1 hj
        have hlt : j < ops.size := (Array.getElem?_eq_some_iff.1 ho).1
        rw [hX j hlt, unlisted_zero (Nat.le_zero.1 hu) j hlt] at h0
        cases h0
      exact ⟨hr, hend X listed a w hls hX hr hrel⟩
    | succ fuel ih =>
      intro X listed a w hls hX hcl hu hrel
      refine ⟨fun hr => hend X listed a w hls hX hr hrel, fun j hj => ?_⟩
      obtain ⟨h0, o, ho, hall⟩ := mem_ready.1 hj
      have hlt : j < ops.size := (Array.getElem?_eq_some_iff.1 ho).1
      have hXj : X j = false := by rw [← hX j hlt]; exact h0
      have hready : ∀ k ∈ edgesOf o, X k = true := by
        intro k hk
        obtain ⟨e, he, hb, rfl⟩ := edgesOf_mem hk
        have h1 := hall e he hb
        have hke := hedge j o ho e.on hk
        have h2 := hX e.on (by omega)
        have : e.on < listed.size := by omega
        simp [this] at h1 h2
        rw [← h2]; exact h1
      have before : ∀ i, i < j → ordered ops.toList 6 i j = true → X i = true := fun i _ ho' =>
        ordered_listed hcl ho' fun o' ho'' k hk => by
          have : o' = o := by simp [ho] at ho''; exact ho''.symm
          subst this; exact hready k hk
      have behind : ∀ i, j < i → i < ops.size → X i = true → ordered ops.toList 6 j i = true → False := fun i _ hi hXi ho' => by
        have := ordered_listed hcl ho' fun o' ho'' k hk => hcl i o' ho'' hXi k hk
        rw [hXj] at this; cases this
      have hsame : ∀ i, i < ops.size → (∃ oi, ops[i]? = some oi ∧ (hitE ops.toList oi o || hitM ((effAt es i).2.2, (effAt es i).2.1.map Prod.fst) ((effAt es j).2.2, (effAt es j).2.1.map Prod.fst)) = true) → i ≠ j → X i = decide (i < j) := by
        rintro i hi ⟨oi, hoi, hh⟩ hne
        by_cases hij : i < j
        · rw [before i hij (hord i j hij hlt ⟨oi, o, hoi, ho, by simp only [Bool.or_eq_true] at hh ⊢; rcases hh with hh | hh <;> simp [hh]⟩)]
          simp [hij]
        · cases hx : X i
          · simp [hij]
          · exact (behind i (by omega) hi hx (hord j i (by omega) hi ⟨o, oi, ho, hoi, by simp only [Bool.or_eq_true] at hh ⊢; rcases hh with hh | hh <;> simp [hh]⟩)).elim
      have hstep := hst j o (by simpa using ho)
      have envAt : ∀ t ∈ looks ops.toList o, foldX (updEnv ops.toList es) E0 X ops.size t = foldX (updEnv ops.toList es) E0 (fun _ => true) j t := by
        intro t ht
        rw [← foldX_lt (n := ops.size) j (by omega)]
        refine foldX_agree hlE fun i hi hw => ?_
        by_cases hne : i = j
        · subst hne; rw [hXj]; simp
        · refine hsame i hi ⟨ops[i], by simp [hi], ?_⟩ hne
          unfold wrEnv at hw
          rw [hdst i ops[i] (by simp [hi])] at hw
          have : hitE ops.toList ops[i] o = true := by
            simp only [hitE, hw, Bool.or_eq_true, List.any_eq_true]
            exact .inl ⟨t, ht, Nat.beq_refl t⟩
          simp [this]
      have hop : ∀ x ∈ o.op.operands.toList, C.ev (foldX (updEnv ops.toList es) E0 X ops.size) x = C.ev (foldX (updEnv ops.toList es) E0 (fun _ => true) j) x := by
        intro x hx
        cases x with
        | tmp t =>
          refine envAt t (List.mem_append_left _ (mem_tmpsL ?_))
          rw [opsL_eq]; exact hx
        | _ => rfl
      have hgd : guardV ops.toList (foldX (updEnv ops.toList es) E0 X ops.size) o = guardV ops.toList (foldX (updEnv ops.toList es) E0 (fun _ => true) j) o := by
        unfold guardV
        split
        · rfl
        · rename_i g want hg
          split
          · rfl
          · rename_i t ht
            rw [envAt t (List.mem_append_right _ (by simp [hg, ht]))]
      have hrd : ∀ id ∈ (effAt es j).2.2, foldX (updHeap es) H0 X ops.size id = foldX (updHeap es) H0 (fun _ => true) j id := by
        intro id hid
        rw [← foldX_lt (n := ops.size) j (by omega)]
        refine foldX_agree hlH fun i hi hw => ?_
        by_cases hne : i = j
        · subst hne; rw [hXj]; simp
        · refine hsame i hi ⟨ops[i], by simp [hi], ?_⟩ hne
          have : meets ((effAt es i).2.1.map Prod.fst) (effAt es j).2.2 = true := meets_iff.2 ⟨id, hw, hid⟩
          simp [hitM, this]
      unfold wpOp
      rw [ho]
      have hdstlt : ∀ t, o.dst = some t → F.okD nt t := hd o (by simpa using Array.mem_of_getElem? ho)
      refine step_ok hC hG hdstlt hstep hop hgd hrd hrel ?_ ?_
      · rw [tag_even]
        rintro id (hn | ⟨i, hi, hx, e⟩)
        · have := hN _ hn; omega
        · intro e'
          have : i = j := by omega
          subst this; rw [hXj] at hx; cases hx
      · intro a' w' hrel'
        refine ih (addX X j) _ a' w' (by simpa using hls) ?_ ?_ ?_ ?_
        · intro i hi
          by_cases e : i = j
          · subst e
            have : i < listed.size := by omega
            simp [addX, this]
          · rw [getD_set_ne true (Ne.symm e), hX i hi]; simp [addX, e]
        · intro i oi hoi hx k hk
          by_cases e : i = j
          · subst e
            have : oi = o := by simp [ho] at hoi; exact hoi.symm
            subst this
            have := hready k hk
            unfold addX; split
            · rfl
            · exact this
          · have := hcl i oi hoi (by simpa [addX, e] using hx) k hk
            unfold addX; split
            · rfl
            · exact this
        · have := unlisted_add hXj hlt; omega
        · have e1 : foldX (updEnv ops.toList es) E0 (addX X j) ops.size = putF o.dst (effAt es j).1 (foldX (updEnv ops.toList es) E0 X ops.size) := by
            rw [foldX_add hlE hlt hXj ?_]
            · unfold updEnv; rw [hdst j o ho]
            · intro i hij hi hx k hw1 hw2
              refine behind i hij hi hx (hord j i hij hi ⟨o, ops[i], ho, by simp [hi], ?_⟩)
              unfold wrEnv at hw1 hw2
              rw [hdst i ops[i] (by simp [hi])] at hw1
              rw [hdst j o ho] at hw2
              have : hitE ops.toList o ops[i] = true := by
                simp only [hitE, hw1, hw2, Bool.or_eq_true]
                exact .inr (Nat.beq_refl k)
              simp [this]
          have e2 : foldX (updHeap es) H0 (addX X j) ops.size = (effAt es j).2.1.on (foldX (updHeap es) H0 X ops.size) := by
            rw [foldX_add hlH hlt hXj ?_]
            · rfl
            · intro i hij hi hx k hw1 hw2
              refine behind i hij hi hx (hord j i hij hi ⟨o, ops[i], ho, by simp [hi], ?_⟩)
              have : meets ((effAt es j).2.1.map Prod.fst) ((effAt es i).2.1.map Prod.fst) = true := meets_iff.2 ⟨k, hw2, hw1⟩
              simp [hitM, this]
          have e3 : NX N0 n0 ops.size (addX X j) = setN (NX N0 n0 ops.size X) (2 * (n0 + j)) := by
            funext id
            apply propext
            constructor
            · rintro (hn | ⟨i, hi, hx, et⟩)
              · exact .inl (.inl hn)
              · by_cases e : i = j
                · subst e; exact .inr (by rw [tag_even]; exact et)
                · exact .inl (.inr ⟨i, hi, by simpa [addX, e] using hx, et⟩)
            · rintro ((hn | ⟨i, hi, hx, et⟩) | et)
              · exact .inl hn
              · refine .inr ⟨i, hi, ?_, et⟩
                unfold addX; split
                · rfl
                · exact hx
              · rw [tag_even] at et
                exact .inr ⟨j, hlt, by simp [addX], et⟩
          rw [e1, e2, e3]; exact hrel'
  refine main ops.size (fun _ => false) _ a w (by simp) (fun i hi => by simp [hi]) (fun _ _ _ h => by simp at h) (by rw [unlisted_false]; omega) ?_
  have e1 : ∀ n, foldX (updEnv ops.toList es) E0 (fun _ => false) n = E0 := fun n => by
    induction n with
    | zero => rfl
    | succ n ih => simp [foldX, ih]
  have e2 : ∀ n, foldX (updHeap es) H0 (fun _ => false) n = H0 := fun n => by
    induction n with
    | zero => rfl
    | succ n ih => simp [foldX, ih]
  have e3 : NX N0 n0 ops.size (fun _ => false) = N0 := by
    funext id; simp [NX]
  rw [e1, e2, e3]; exact hrel
end
theorem dI {l : List Oper} {t : Trace} {X : Prop} (h : drawOk l t = true) (x : X) : drawOk l t = true ∧ X := ⟨h, x⟩
attribute [irreducible] drawOk
end Go.Fw
namespace Go.Fw
open Go.RowKit (Below)
def Iter (P : Program) (g : Nat) (fb cv : Array Value) (xs : List (Array Value)) (mv : Mem) (w : World) : Prop :=
  ∀ (l : Nat) (J : Nat × (Nat → Prop) → World → Prop) (Jx : Unit → World → Prop) (W : World) (M0 : Nat → Prop), Below w.heap.size w W → (∀ b, M0 b → b < W.heap.size) → AbidesFrom W.heap.size J → AbidesFrom W.heap.size Jx →
    (∀ s W1, J s W1 → mv.le (rd W1)) →
    (∀ i M x W1, xs[i]? = some x → J (i, M) W1 → YieldAt Fence.wide 0 P l x W1 fun e W' =>
      (e = .returned (.bool true) ∧ ∃ M', J (i + 1, M') W' ∧ W1.heap.size ≤ W'.heap.size ∧ (∀ b, M' b → M b ∨ W1.heap.size ≤ b) ∧ ∀ b arr T, W1.heap[b]? = some (.cells arr T) → ¬ M b → W'.heap[b]? = some (.cells arr T)) ∨
      (e = .returned (.bool false) ∧ Jx () W')) →
    J (0, M0) W → CallsIn Fence.wide 0 P g (fb ++ #[.func (.yield l) #[] #[]] ++ cv) W fun e W' => (∃ v, e = .returned v) ∧ ((∃ M, J (xs.length, M) W') ∨ Jx () W')
def SatIt (P : Program) (gl : Glob) (g : FuncId) (first : List SV) (caps : List (List SC)) (xs : List (List SV)) : Prop :=
  fnOk P g = true ∧ ∀ (mv mr : Mem) (w : World) (fb cv : Array Value), mv.le mr → mr.le (rd w) → GlobOK gl (rd w) → RepL mv mr fb first → RepL mv mr cv (caps.map fun cs => (false, [.ref cs])) →
    ∃ xv : List (Array Value), xv.length = xs.length ∧ (∀ (i : Nat) (x : Array Value) (r : List SV), xv[i]? = some x → xs[i]? = some r → RepL mv nomem x r) ∧ Iter P g fb cv xv mr w
section
variable {P : Program} {l : Nat} {n : Nat}
theorem callsIn_round {f : FuncId} {args : Array Value} {w : World} {R : Ending → World → Prop} (h : Calls P f args w R) : CallsIn (Fence.wide.inRound l) n P f args w R := (callsIn_wide (n := n)).2 h
theorem rowsIn_round {row : String} {args : Array Value} {w : World} {R : Value → World → Prop} (h : Rows P row args w R) : RowsIn (Fence.wide.inRound l) n P row args w R :=
  fun c cs _ => let ⟨v, w', r, s⟩ := h c cs; ⟨v, w', r, stepsIn_wide.2 s⟩
theorem op_round {o : Oper} {a : Act} {w : World} {K : Act → World → Prop} {Q : Exit → Act → World → Prop} (hd : ∀ c, o.op ≠ .defer c) (h : o.wp P a w K Q) : o.wpIn (Fence.wide.inRound l) n P a w K Q := by
  refine ⟨fun _ _ => trivial, ?_⟩
  rw [Fence.inRound_round, Oper.semAt_some l _ _ hd]
  unfold Oper.wp at h
  generalize (execOp a.eval o).run P w = r at *
  cases r with
  | ok x w' =>
    cases x <;> simp only [Oper.upon, Oper.uponIn] at h ⊢ <;> first
      | exact h
      | exact ⟨fun h => by simp [Fence.inRound, Fence.wide] at h, callsIn_round h⟩
      | exact ⟨fun h => by simp [Fence.inRound, Fence.wide] at h, rowsIn_round h⟩
  | halt x w' => cases x <;> simp only [Oper.upon, Oper.uponIn] at h ⊢ <;> exact h
def noDefer : List Oper → Bool
  | [] => true
  | o :: l => match o.op with
    | .defer _ => false
    | _ => noDefer l
theorem noDefer_mem {l : List Oper} (h : noDefer l = true) : ∀ o ∈ l, ∀ c, o.op ≠ .defer c := by
  induction l with
  | nil => simp
  | cons x l ih =>
    unfold noDefer at h
    split at h
    · cases h
    · rename_i hx
      intro o ho c e
      rcases List.mem_cons.1 ho with rfl | ho
      · exact hx c e
      · exact ih h o ho c e
theorem ops_round {ops : Array Oper} {Q : Exit → Act → World → Prop} (hd : noDefer ops.toList = true) (hQ : ¬ LetsOut Q) : ∀ (is : List Nat) (a : Act) (w : World), wpOps P ops Q is a w → wpOpsIn (Fence.wide.inRound l) n P ops Q is a w := by
  intro is
  induction is with
  | nil => intro a w h; exact h
  | cons i is ih =>
    intro a w h
    unfold wpOps at h
    unfold wpOpsIn
    split at h
    · rename_i ho; simp only [ho]; exact ih a w h
    · rename_i o ho
      simp only [ho]
      split at h
      · rename_i hw
        simp only [hw, if_true]
        rcases h with h | h
        · exact Oper.wpIn_mono ih (op_round (noDefer_mem hd o (by simpa using Array.mem_of_getElem? ho)) h)
        · exact absurd h.2 hQ
      · rename_i hw
        simp only [hw]
        exact ⟨fun _ _ => trivial, ih _ _ h⟩
theorem region_list_round {id : Nat} {ops : Array Oper} {Q : Exit → Act → World → Prop} {a : Act} {w : World} (hd : noDefer ops.toList = true) (hQ : ¬ LetsOut Q) (h : wpList P ops Q ops.toList a w) :
    (Code.region id ops false).wpIn (Fence.wide.inRound l) n P Q a w := by
  refine wpIn_region (ops_round hd hQ _ _ _ ?_)
  rw [List.range_eq_range', ← Array.length_toList, wpOps_eq_wpList ops.toList 0 (by simp)]; exact h
theorem region_any_round {id : Nat} {ops : Array Oper} {Q : Exit → Act → World → Prop} {a : Act} {w : World} (hd : noDefer ops.toList = true) (hQ : ¬ LetsOut Q) (hm : P.follows .mixedOrders = true)
    (h : wpAny P .any ops Q ops.size (Array.replicate ops.size false) a { w with drawn := w.drawn + 1 }) : (Code.region id ops true).wpIn (Fence.wide.inRound l) n P Q a w := by
  refine wpIn_region_draw fun t => ops_round hd hQ _ _ _ ?_
  simp only [Region.schedule, hm, Bool.true_or, if_true]
  exact wpAny_sound ops.size t _ a _ h
end
end Go.Fw
namespace Go.Fw
open Go.RowKit (Below)
structure St where
  env : Env
  hp : Hp
  nx : Nat
def Rel (F : Fix) (nt : Nat) (S : St) (a : Act) (w : World) : Prop := ∃ N, RelN F nt S.env.get S.hp.get N a w ∧ ∀ id, N id → tag id < S.nx
def Sub (S S' : St) : Prop := ∀ F nt a w, Rel F nt S a w → Rel F nt S' a w
theorem Sub.refl (S : St) : Sub S S := fun _ _ _ _ h => h
theorem Sub.trans {S S' S'' : St} (h : Sub S S') (k : Sub S' S'') : Sub S S'' := fun F nt a w r => k F nt a w (h F nt a w r)
@[irreducible] def LFP (step : (St → Prop) → St → Prop) (S : St) : Prop := ∀ Z : St → Prop, (∀ S, step (fun S' => ∃ S'', Sub S' S'' ∧ Z S'') S → Z S) → Z S
def regionA (C : Ctx) (ops : List Oper) (draw : Bool) (S : St) (kn : St → Prop) : Prop := match S with
  | ⟨E, H, nx⟩ => opsA C ops nx ops 0 E H [] fun E H n t => match draw with
    | false => kn ⟨E, H, nx + n⟩
    | true => drawOk ops t = true ∧ kn ⟨E, H, nx + n⟩
def params : List Tmp → List SV → Env → Env
  | p :: ps, x :: xs, E => params ps xs ((p, some (.val (dyn x))) :: E)
  | _, _, E => E
def natFree (n : Nat) (l : List Nat) : Bool := !natIn n l
def opsFree (l : List Nat) : List Oper → Bool
  | [] => true
  | o :: r => (match o.dst with | some d => natFree d l | none => true) && opsFree l r
def codeFree (l : List Nat) : Code → Bool
  | .seq x y => codeFree l x && codeFree l y
  | .cond _ x y => codeFree l x && codeFree l y
  | .block _ c => codeFree l c
  | .loop c => codeFree l c
  | .scope c => codeFree l c
  | .rangeFunc _ _ x y => codeFree l x && codeFree l y
  | .region _ ops _ => opsFree l ops.toList
  | _ => true
def flatC : Code → Bool
  | .skip => true
  | .label _ => true
  | .ret => true
  | .exit _ => true
  | .seq x y => flatC x && flatC y
  | .cond _ x y => flatC x && flatC y
  | .block _ c => flatC c
  | .region _ ops _ => noDefer ops.toList
  | _ => false
def noMapL : Hp → Bool
  | [] => true
  | (_, some (.map _)) :: _ => false
  | _ :: H => noMapL H
def keysOf : Env → List Nat
  | [] => []
  | (k, _) :: E => k :: keysOf E
def tmpsFree (l : List Nat) : List Tmp → Bool
  | [] => true
  | p :: ps => natFree p l && tmpsFree l ps
def awp (C : Ctx) : Code → St → (St → Prop) → (Nat → St → Prop) → (St → Prop) → Prop
  | .skip, S, kn, _, _ => kn S
  | .label _, S, kn, _, _ => kn S
  | .ret, S, _, _, kr => kr S
  | .exit id, S, _, kx, _ => kx id S
  | .seq x y, S, kn, kx, kr => awp C x S (fun S => ∃ S', Sub S S' ∧ awp C y S' kn kx kr) kx kr
  | .cond c x y, S, kn, kx, kr => match C.ev S.env.get c with
    | some (.val (false, [.st (.lit (.bool b))])) => brn b (awp C x S kn kx kr) (awp C y S kn kx kr)
    | _ => False
  | .block id c, S, kn, kx, kr => awp C c S kn (fun id' S => match Nat.beq id' id with
    | true => kn S
    | false => kx id' S) kr
  | .loop c, S, _, kx, kr => ∃ S', Sub S S' ∧ LFP (fun Z S => awp C c S Z kx kr) S'
  | .region _ ops draw, S, kn, _, _ => regionA C ops.toList draw S kn
  | .scope c, S, kn, kx, kr => awp C c S kn kx kr
  | .rangeFunc g ps x y, S, kn, _, kr => match C.ev S.env.get g with
    | some (.val (false, [.st (.fn gf first caps)])) => ∃ (xs : List (List SV)) (Hs : Nat → Hp) (nx : Nat) (Inv : Nat → Prop), SatIt C.P C.gl gf first caps xs ∧ (∀ r ∈ xs, r.length = ps.size) ∧
        (flatC x = true ∧ flatC y = true ∧ codeFree (keysOf S.env) x = true ∧ codeFree (keysOf S.env) y = true ∧ tmpsFree (keysOf S.env) ps.toList = true) ∧ (∀ i, noMapL (Hs i) = true) ∧ Sub S ⟨S.env, Hs 0, nx⟩ ∧ Inv 0 ∧
        (∀ i r, xs[i]? = some r → Inv i → awp C x ⟨params ps.toList r S.env, Hs i, nx⟩ (fun S1 => ∃ S1', Sub S1 S1' ∧ awp C y S1' (fun S2 => Inv (i + 1) ∧ Sub S2 ⟨S.env, Hs (i + 1), nx⟩) (fun _ _ => False)
          (fun S2 => ∃ Hr nr, noMapL Hr = true ∧ Sub S2 ⟨S.env, Hr, nr⟩ ∧ kr ⟨S.env, Hr, nr⟩)) (fun _ _ => False) (fun _ => False)) ∧ (Inv xs.length → kn ⟨S.env, Hs xs.length, nx⟩)
    | _ => False
  | _, _, _, _, _ => False
def opsIn (nt : Nat) : List Oper → Bool
  | [] => true
  | o :: l => (match o.dst with | some d => Nat.blt d nt | none => true) && opsIn nt l
def codeOk (nt : Nat) : Code → Bool
  | .seq x y => codeOk nt x && codeOk nt y
  | .cond _ x y => codeOk nt x && codeOk nt y
  | .block _ c => codeOk nt c
  | .loop c => codeOk nt c
  | .scope c => codeOk nt c
  | .rangeFunc _ ps x y => (ps.toList.all fun p => Nat.blt p nt) && (codeOk nt x && codeOk nt y)
  | .region _ ops _ => opsIn nt ops.toList
  | _ => true
theorem natIn_iff {n : Nat} {l : List Nat} : natIn n l = true ↔ n ∈ l := by
  induction l with
  | nil => simp [natIn]
  | cons m l ih =>
    unfold natIn
    split
    · rename_i h; rw [Nat.eq_of_beq_eq_true h]; simp
    · rename_i h
      have : n ≠ m := fun e => by subst e; rw [Nat.beq_refl] at h; cases h
      simp [ih, this]
theorem natFree_not {n : Nat} {l : List Nat} (h : natFree n l = true) : n ∉ l := by
  intro hm
  rw [natFree, natIn_iff.2 hm] at h
  cases h
theorem opsFree_spec {k : List Nat} {l : List Oper} (h : opsFree k l = true) : ∀ o ∈ l, ∀ t, o.dst = some t → t ∉ k := by
  induction l with
  | nil => intro o ho; cases ho
  | cons x l ih =>
    rw [opsFree] at h
    obtain ⟨h1, h2⟩ := ble_and h
    intro o' ho t ht
    rcases List.mem_cons.1 ho with rfl | ho
    · rw [ht] at h1; exact natFree_not h1
    · exact ih h2 o' ho t ht
theorem opsFree_nil (l : List Oper) : opsFree [] l = true := by
  induction l with
  | nil => rfl
  | cons o l ih =>
    rw [opsFree, ih, Bool.and_true]
    split <;> rfl
theorem codeFree_nil (c : Code) : codeFree [] c = true := by
  induction c with
  | seq x y ihx ihy => rw [codeFree, ihx, ihy]; rfl
  | cond c x y ihx ihy => rw [codeFree, ihx, ihy]; rfl
  | rangeFunc g ps x y ihx ihy => rw [codeFree, ihx, ihy]; rfl
  | block id c ih => rw [codeFree, ih]
  | loop c ih => rw [codeFree, ih]
  | scope c ih => rw [codeFree, ih]
  | region id ops draw => exact opsFree_nil _
  | _ => rfl
theorem opsIn_spec {nt : Nat} {l : List Oper} (h : opsIn nt l = true) : ∀ o ∈ l, ∀ t, o.dst = some t → t < nt := by
  induction l with
  | nil => intro o ho; cases ho
  | cons x l ih =>
    rw [opsIn] at h
    obtain ⟨h1, h2⟩ := ble_and h
    intro o' ho t ht
    rcases List.mem_cons.1 ho with rfl | ho
    · rw [ht] at h1; simpa [Nat.blt_eq] using h1
    · exact ih h2 o' ho t ht
section
variable {C : Ctx}
theorem LFP_mono {step step' : (St → Prop) → St → Prop} (hs : ∀ Z S, step Z S → step' Z S) {S : St} (h : LFP step S) : LFP step' S := by
  unfold LFP at *
  exact fun Z hZ => h Z fun S hS => hZ S (hs _ _ hS)
theorem awp_mono {c : Code} : ∀ {S : St} {kn kn' : St → Prop} {kx kx' : Nat → St → Prop} {kr kr' : St → Prop}, awp C c S kn kx kr → (∀ S, kn S → kn' S) → (∀ id S, kx id S → kx' id S) → (∀ S, kr S → kr' S) → awp C c S kn' kx' kr' := by
  induction c with
  | skip => intro S kn kn' kx kx' kr kr' h h1 h2 h3; exact h1 _ h
  | label l => intro S kn kn' kx kx' kr kr' h h1 h2 h3; exact h1 _ h
  | ret => intro S kn kn' kx kx' kr kr' h h1 h2 h3; exact h3 _ h
  | exit id => intro S kn kn' kx kx' kr kr' h h1 h2 h3; exact h2 _ _ h
  | seq x y ihx ihy => intro S kn kn' kx kx' kr kr' h h1 h2 h3; exact ihx h (fun S ⟨S', hs, h⟩ => ⟨S', hs, ihy h h1 h2 h3⟩) h2 h3
  | cond c x y ihx ihy =>
    intro S kn kn' kx kx' kr kr' h h1 h2 h3
    unfold awp at h ⊢
    split at h
    · rename_i b hb
      exact brn_mono h (fun h => ihx h h1 h2 h3) fun h => ihy h h1 h2 h3
    · exact h.elim
  | block id c ih =>
    intro S kn kn' kx kx' kr kr' h h1 h2 h3
    refine ih h h1 (fun id' S h => ?_) h3
    split at h
    · exact h1 _ h
    · exact h2 _ _ h
  | loop c ih =>
    intro S kn kn' kx kx' kr kr' h h1 h2 h3
    obtain ⟨S', hs, h⟩ := h
    exact ⟨S', hs, LFP_mono (fun Z S h => ih h (fun _ h => h) h2 h3) h⟩
  | region id ops draw =>
    intro S kn kn' kx kx' kr kr' h h1 h2 h3
    refine opsA_mono h fun E H n t h => ?_
    cases draw
    · exact h1 _ h
    · exact ⟨h.1, h1 _ h.2⟩
  | scope c ih => intro S kn kn' kx kx' kr kr' h h1 h2 h3; exact ih h h1 h2 h3
  | rangeFunc g ps x y ihx ihy =>
    intro S kn kn' kx kx' kr kr' h h1 h2 h3
    unfold awp at h ⊢
    split at h
    · obtain ⟨xs, Hs, nx, Inv, q1, q2, q3, qm, q4, q0, q5, q6⟩ := h
      exact ⟨xs, Hs, nx, Inv, q1, q2, q3, qm, q4, q0, fun i r hr hi => ihx (q5 i r hr hi) (fun _ ⟨S1', hs, h⟩ => ⟨S1', hs, ihy h (fun _ h => h) (fun _ _ h => h) fun _ ⟨Hr, nr, hm, hs, h⟩ => ⟨Hr, nr, hm, hs, h3 _ h⟩⟩) (fun _ _ h => h) fun _ h => h, fun hi => h1 _ (q6 hi)⟩
    · exact h.elim
  | goto => intro S kn kn' kx kx' kr kr' h; exact h.elim
  | refuse => intro S kn kn' kx kx' kr kr' h; exact h.elim
theorem LFP_round {c : Code} {kx : Nat → St → Prop} {kr : St → Prop} {S : St} (h : awp C c S (fun S' => ∃ S'', Sub S' S'' ∧ LFP (fun Z S => awp C c S Z kx kr) S'') kx kr) : LFP (fun Z S => awp C c S Z kx kr) S := by
  unfold LFP
  intro Z hZ
  refine hZ S (awp_mono h (fun S' h => ?_) (fun _ _ h => h) fun _ h => h)
  obtain ⟨S'', h1, h2⟩ := h
  unfold LFP at h2
  exact ⟨S'', h1, h2 Z hZ⟩
theorem LFP_sub {c : Code} {kx : Nat → St → Prop} {kr : St → Prop} {S : St} (h : awp C c S (LFP (fun Z S => awp C c S Z kx kr)) kx kr) : LFP (fun Z S => awp C c S Z kx kr) S :=
  LFP_round (awp_mono h (fun S' h => ⟨S', Sub.refl _, h⟩) (fun _ _ h => h) fun _ h => h)
end
def loopIn (P : Program) (c : Code) (Q : Exit → Act → World → Prop) (a : Act) (w : World) : Prop :=
  ∀ (b : Frame) (k : List Item) (cs : List Frame), ∃ e a' w', Q e a' w' ∧ Arrives P (lone (b.at a (.code c :: .inLoop c :: k)) cs w) b k cs e a' w'
theorem loopIn.wp {P : Program} {c : Code} {Q : Exit → Act → World → Prop} {a : Act} {w : World} (h : loopIn P c Q a w) : (Code.loop c).wp P Q a w :=
  fun b k cs => let ⟨e, a', w', hq, harr⟩ := h b k cs; ⟨e, a', w', hq, .of_steps (.one step_loop) harr⟩
theorem loopIn.round {P : Program} {c : Code} {Q : Exit → Act → World → Prop} {a : Act} {w : World} (h : c.wp P (Exit.then (loopIn P c Q) Q) a w) : loopIn P c Q a w := by
  intro b k cs
  obtain ⟨e, a₁, w₁, hq, harr⟩ := h b (.inLoop c :: k) cs
  cases e with
  | normal =>
    obtain ⟨e₂, a₂, w₂, hq₂, harr₂⟩ := hq b k cs
    exact ⟨e₂, a₂, w₂, hq₂, .of_steps (Steps.trans harr (.one step_inLoop)) harr₂⟩
  | exit id => exact ⟨_, a₁, w₁, hq, .pass (x := .inLoop c) rfl (fun _ _ => .inl (by simp)) harr⟩
  | goto l => exact ⟨_, a₁, w₁, hq, .pass (x := .inLoop c) rfl (fun _ _ => .inl (by simp)) harr⟩
  | ret => exact ⟨_, a₁, w₁, hq, .pass (x := .inLoop c) rfl (fun _ _ => .inl (by simp)) harr⟩
  | panic ch => exact ⟨_, a₁, w₁, hq, .pass (x := .inLoop c) rfl (fun _ _ => .inl (by simp)) harr⟩
  | outgrown => exact ⟨_, a₁, w₁, hq, .pass (x := .inLoop c) rfl (fun _ _ => .inl (by simp)) harr⟩
section
variable {C : Ctx} {F : Fix} {nt : Nat}
theorem RelN.drawn {E : EF} {H : HF} {N : Nat → Prop} {a : Act} {w : World} (h : RelN F nt E H N a w) (n : Nat) : RelN F nt E H N a { w with drawn := n } := by
  obtain ⟨h1, h2, h3, β, hE, hR⟩ := h
  have hB : Below w.heap.size w { w with drawn := n } := ⟨rfl, rfl, rfl, Nat.le_refl _, fun _ _ => rfl⟩
  exact ⟨h1, h2.keep (Tr.grow hR hB).others, h3, β, (Tr.grow hR hB).env hR hE, hR.grow hB⟩
theorem okD_of {l : List Oper} (h1 : opsIn nt l = true) (h2 : opsFree (F.fixed.map Prod.fst) l = true) : ∀ o ∈ l, ∀ t, o.dst = some t → F.okD nt t :=
  fun o ho t ht => ⟨opsIn_spec h1 o ho t ht, fun p hp e => opsFree_spec h2 o ho t ht (by rw [← e]; exact List.mem_map.2 ⟨p, hp, rfl⟩)⟩
theorem region_list (hC : C.Ok) (hG : Globs C F) {ops : Array Oper} {S : St} {kn : St → Prop} {a : Act} {w : World} {Q : Exit → Act → World → Prop} (hd : ∀ o ∈ ops.toList, ∀ t, o.dst = some t → F.okD nt t)
    (h : regionA C ops.toList false S kn) (hrel : Rel F nt S a w) (hQ : ∀ S a w, kn S → Rel F nt S a w → Q .normal a w) : wpList C.P ops Q ops.toList a w := by
  obtain ⟨N, hr, hN⟩ := hrel
  obtain ⟨es, E', H', hruns, hK⟩ := opsA_runs h
  refine runs_text (nt := nt) hC hG hruns hd hr (by simpa using hN) ?_
  intro a' w' N' hr' hN'
  exact hQ _ a' w' hK ⟨N', hr', hN'⟩
theorem region_any (hC : C.Ok) (hG : Globs C F) {ops : Array Oper} {S : St} {kn : St → Prop} {a : Act} {w : World} {Q : Exit → Act → World → Prop} (hd : ∀ o ∈ ops.toList, ∀ t, o.dst = some t → F.okD nt t)
    (h : regionA C ops.toList true S kn) (hrel : Rel F nt S a w) (hQ : ∀ S a w, kn S → Rel F nt S a w → Q .normal a w) : wpAny C.P .any ops Q ops.size (Array.replicate ops.size false) a { w with drawn := w.drawn + 1 } := by
  obtain ⟨N, hr, hN⟩ := hrel
  obtain ⟨es, E', H', hruns, h1, h2⟩ := opsA_runs h
  refine runs_any (nt := nt) hC hG hruns h1 hd (hr.drawn _) hN ?_
  intro a' w' N' hr' hN'
  exact hQ _ a' w' h2 ⟨N', hr', by simpa using hN'⟩
theorem region_sound (hC : C.Ok) (hG : Globs C F) {id : Nat} {ops : Array Oper} {draw : Bool} {S : St} {kn : St → Prop} {a : Act} {w : World} {Q : Exit → Act → World → Prop} (hd : ∀ o ∈ ops.toList, ∀ t, o.dst = some t → F.okD nt t)
    (h : regionA C ops.toList draw S kn) (hrel : Rel F nt S a w) (hQ : ∀ S a w, kn S → Rel F nt S a w → Q .normal a w) : (Code.region id ops draw).wp C.P Q a w := by
  cases draw with
  | false => exact wp_region_list (region_list hC hG hd h hrel hQ)
  | true => exact wp_region_any hC.mixed (region_any hC hG hd h hrel hQ)
theorem awp_round (hC : C.Ok) (hG : Globs C F) {l n : Nat} {c : Code} : ∀ {S : St} {kn : St → Prop} {kx : Nat → St → Prop} {kr : St → Prop} {a : Act} {w : World} {Q : Exit → Act → World → Prop}, flatC c = true → codeOk nt c = true → codeFree (F.fixed.map Prod.fst) c = true → ¬ LetsOut Q →
    awp C c S kn kx kr → Rel F nt S a w →
    (∀ S a w, kn S → Rel F nt S a w → Q .normal a w) → (∀ id S a w, kx id S → Rel F nt S a w → Q (.exit id) a w) → (∀ S a w, kr S → Rel F nt S a w → Q .ret a w) → c.wpIn (Fence.wide.inRound l) n C.P Q a w := by
  induction c with
  | skip => intro S kn kx kr a w Q _ _ _ _ h hr h1 h2 h3; exact wpIn_skip (h1 _ _ _ h hr)
  | label l => intro S kn kx kr a w Q _ _ _ _ h hr h1 h2 h3; exact wpIn_label (h1 _ _ _ h hr)
  | ret => intro S kn kx kr a w Q _ _ _ _ h hr h1 h2 h3; exact wpIn_ret (h3 _ _ _ h hr)
  | exit id => intro S kn kx kr a w Q _ _ _ _ h hr h1 h2 h3; exact wpIn_exit (h2 _ _ _ _ h hr)
  | seq x y ihx ihy =>
    intro S kn kx kr a w Q hf hc hfr hQ h hr h1 h2 h3
    obtain ⟨hx, hy⟩ := ble_and (a := codeOk nt x) (b := codeOk nt y) hc
    obtain ⟨fx, fy⟩ := ble_and (a := flatC x) (b := flatC y) hf
    obtain ⟨gx, gy⟩ := ble_and (a := codeFree (F.fixed.map Prod.fst) x) (b := codeFree (F.fixed.map Prod.fst) y) hfr
    refine wpIn_seq (ihx fx hx gx (fun ⟨a, w, h⟩ => hQ ⟨a, w, h⟩) h hr (fun S a w ⟨S', hs, h⟩ hr => ihy fy hy gy hQ h (hs _ _ _ _ hr) h1 h2 h3) h2 h3)
  | cond c x y ihx ihy =>
    intro S kn kx kr a w Q hf hc hfr hQ h hr h1 h2 h3
    obtain ⟨hx, hy⟩ := ble_and (a := codeOk nt x) (b := codeOk nt y) hc
    obtain ⟨fx, fy⟩ := ble_and (a := flatC x) (b := flatC y) hf
    obtain ⟨gx, gy⟩ := ble_and (a := codeFree (F.fixed.map Prod.fst) x) (b := codeFree (F.fixed.map Prod.fst) y) hfr
    unfold awp at h
    split at h
    · rename_i b hb
      have hv : a.eval c = .bool b := by
        obtain ⟨N, ⟨_, _, _, β, hE, hR⟩, _⟩ := hr
        have := ev_ok hG hR hE hb
        exact (RepDX.one_inv this).lit_inv.1
      refine wpIn_cond hv ?_
      cases b
      · exact ihy fy hy gy hQ (brn_false' h) hr h1 h2 h3
      · exact ihx fx hx gx hQ (brn_true' h) hr h1 h2 h3
    · exact h.elim
  | block id c ih =>
    intro S kn kx kr a w Q hf hc hfr hQ h hr h1 h2 h3
    refine wpIn_block (ih hf hc hfr (fun ⟨a, w, h⟩ => hQ ⟨a, w, h⟩) h hr (fun S a w h hr => h1 S a w h hr) (fun id' S a w h hr => ?_) fun S a w h hr => h3 S a w h hr)
    show if id' = id then Q .normal a w else Q (.exit id') a w
    split at h
    · rename_i e
      rw [if_pos (Nat.eq_of_beq_eq_true e)]; exact h1 _ _ _ h hr
    · rename_i e
      rw [if_neg (fun e' => by subst e'; rw [Nat.beq_refl] at e; cases e)]; exact h2 _ _ _ _ h hr
  | region id ops draw =>
    intro S kn kx kr a w Q hf hc hfr hQ h hr h1 h2 h3
    cases draw with
    | false => exact region_list_round hf hQ (region_list hC hG (okD_of hc hfr) h hr h1)
    | true => exact region_any_round hf hQ hC.mixed (region_any hC hG (okD_of hc hfr) h hr h1)
  | loop c ih => intro S kn kx kr a w Q hf; cases hf
  | scope c ih => intro S kn kx kr a w Q hf; cases hf
  | rangeFunc => intro S kn kx kr a w Q hf; cases hf
  | goto => intro S kn kx kr a w Q hf; cases hf
  | refuse => intro S kn kx kr a w Q hf; cases hf
def live (β : Nat → Option Nat) (H : HF) (b : Nat) : Prop := ∃ id blk, H id = some blk ∧ β id = some b
structure RelB (F : Fix) (nt : Nat) (S : St) (t : Array Value) (w : World) (β : Nat → Option Nat) (N : Nat → Prop) : Prop where
  size : t.size = nt
  env : ∀ s dv, S.env.get s = some dv → RepDV F β N S.hp.get w (t.getD s undef) dv
  heap : HeapRel F β N S.hp.get w
  ids : ∀ id, N id → tag id < S.nx
structure StepR (F : Fix) (β : Nat → Option Nat) (H : HF) (w : World) (β' : Nat → Option Nat) (H' : HF) (w' : World) : Prop where
  size : w.heap.size ≤ w'.heap.size
  keep : ∀ (b : Nat) (o : Obj), w.heap[b]? = some o → ¬ live β H b → w'.heap[b]? = some o
  live : ∀ b, live β' H' b → live β H b ∨ w.heap.size ≤ b
  mv : (MV F β H w).le (MV F β' H' w')
theorem stable_dead {β : Nat → Option Nat} {H : HF} {b o : Nat} (h : ¬ live β H b) : stable β H b o := fun id blk e hb => absurd ⟨id, blk, e, hb⟩ h
theorem live_mine {β : Nat → Option Nat} {N : Nat → Prop} {H : HF} {w : World} (hR : HeapRel F β N H w) {b : Nat} (h : live β H b) : b < w.heap.size ∧ F.mine b :=
  let ⟨_, _, e, hb⟩ := h; hR.live_lt e hb
noncomputable def Fix.anew (F : Fix) (β : Nat → Option Nat) (H : HF) (w : World) (fx : List (Nat × Value)) : Fix := ⟨w, MV F β H w, live β H, fx, F.db, MR F β H w⟩
section
variable {β β' : Nat → Option Nat} {N N' : Nat → Prop} {H H' : HF} {w w' : World} {fx : List (Nat × Value)}
theorem mine_anew (hR : HeapRel F β N H w) {b : Nat} (h : (F.anew β H w fx).mine b) : F.mine b := by
  rcases h with h | h
  · exact .inl (Nat.le_trans hR.below.size h)
  · exact (live_mine hR h).2
theorem MV_anew (hR : HeapRel F β N H w) : MV (F.anew β H w fx) β H w = MV F β H w := by
  funext b o
  by_cases h1 : (F.anew β H w fx).mine b
  · have h2 := mine_anew hR h1
    unfold MV
    rw [if_pos h1, if_pos h2]
  · unfold MV
    rw [if_neg h1]
    rfl
theorem MR_anew (hR : HeapRel F β N H w) : MR (F.anew β H w fx) β H w = MR F β H w := by
  funext b o
  by_cases h1 : (F.anew β H w fx).mine b
  · have h2 := mine_anew hR h1
    unfold MR
    rw [if_pos h1, if_pos h2, MV_anew hR]
  · have e : MR (F.anew β H w fx) β H w b o = (F.anew β H w fx).mr0 b o := by unfold MR; rw [if_neg h1]
    exact e
theorem repD_eq {G : Fix} (h1 : MV G β H w = MV F β H w) (h2 : MR G β H w = MR F β H w) {v : Value} {d : DC} : RepD G β N H w v d ↔ RepD F β N H w v d := by
  cases d <;> simp only [RepD, h1, h2]
theorem repDX_eq {G : Fix} (h1 : MV G β H w = MV F β H w) (h2 : MR G β H w = MR F β H w) {v : Value} {d : DX} : RepDX G β N H w v d ↔ RepDX F β N H w v d := by
  unfold RepDX
  split
  · constructor
    · rintro ⟨arr, q1, q2, q3⟩; exact ⟨arr, q1, q2, fun k c hc => (repD_eq h1 h2).1 (q3 k c hc)⟩
    · rintro ⟨arr, q1, q2, q3⟩; exact ⟨arr, q1, q2, fun k c hc => (repD_eq h1 h2).2 (q3 k c hc)⟩
  · constructor
    · rintro ⟨c, q1, q2⟩; exact ⟨c, q1, (repD_eq h1 h2).1 q2⟩
    · rintro ⟨c, q1, q2⟩; exact ⟨c, q1, (repD_eq h1 h2).2 q2⟩
theorem repDV_eq {G : Fix} (h1 : MV G β H w = MV F β H w) (h2 : MR G β H w = MR F β H w) {v : Value} {d : DV} : RepDV G β N H w v d ↔ RepDV F β N H w v d := by
  cases d with
  | val x => exact repDX_eq h1 h2
  | tup l =>
    constructor
    · rintro ⟨arr, q1, q2, q3⟩; exact ⟨arr, q1, q2, fun k c hc => (repDX_eq h1 h2).1 (q3 k c hc)⟩
    · rintro ⟨arr, q1, q2, q3⟩; exact ⟨arr, q1, q2, fun k c hc => (repDX_eq h1 h2).2 (q3 k c hc)⟩
theorem blkRel_eq {G : Fix} (h1 : MV G β H w = MV F β H w) (h2 : MR G β H w = MR F β H w) {id : Nat} {blk : Blk} (hm : ∀ b, β id = some b → G.mine b → F.mine b) (h : BlkRel G β N H w id blk) : BlkRel F β N H w id blk := by
  cases blk with
  | box t cs =>
    obtain ⟨b, arr, T, q1, q2, q3, q4, q5⟩ := h
    exact ⟨b, arr, T, q1, hm b q1 q2, q3, q4, fun k x hx => (repD_eq h1 h2).1 (q5 k x hx)⟩
  | fbox cs =>
    obtain ⟨b, arr, T, q1, q2, q3, q4, q5⟩ := h
    exact ⟨b, arr, T, q1, hm b q1 q2, q3, q4, fun k x hx => by have := q5 k x hx; rwa [h1, h2] at this⟩
  | row m z c =>
    obtain ⟨q0, q1 | ⟨b, cap, q1, q2, q3⟩⟩ := h
    · exact ⟨q0, .inl q1⟩
    · exact ⟨q0, .inr ⟨b, cap, q1, hm b q1 q2, by rw [h1] at q3; exact q3⟩⟩
  | rowD z l =>
    obtain ⟨q0, q1 | ⟨b, cap, arr, T, q1, q2, q3, q4, q5, q6⟩⟩ := h
    · exact ⟨q0, .inl q1⟩
    · exact ⟨q0, .inr ⟨b, cap, arr, T, q1, hm b q1 q2, q3, q4, q5, fun i e k x hi hx => (repD_eq h1 h2).1 (q6 i e k x hi hx)⟩⟩
  | map es =>
    obtain ⟨b, arr, ck, q1, q2, q3, q4, q5⟩ := h
    exact ⟨b, arr, ck, q1, hm b q1 q2, q3, q4, by rw [h1, h2] at q5; exact q5⟩
theorem HeapRel.anew (hG : Globs C F) (hR : HeapRel F β N H w) : HeapRel (F.anew β H w fx) β N H w := by
  refine ⟨fun id blk e => ⟨(hR.rel id blk e).1, ?_⟩, hR.inj, Keep.refl _ _, fun b o v e => ⟨MV_rd hG hR e, fun _ => ?_⟩⟩
  · exact blkRel_eq (MV_anew hR).symm (MR_anew hR).symm (fun b hb _ => .inr ⟨id, blk, e, hb⟩) (hR.rel id blk e).2
  · have e : MV F β H w b o = some v := e
    unfold MV at e
    split at e
    · split at e
      · assumption
      · cases e
    · rename_i hm
      exact stable_dead fun h => hm (live_mine hR h).2
theorem back_step (hR : HeapRel F β N H w) (hR' : HeapRel (F.anew β H w fx) β' N' H' w') : MV (F.anew β H w fx) β' H' w' = MV F β' H' w' ∧ MR (F.anew β H w fx) β' H' w' = MR F β' H' w' ∧ StepR F β H w β' H' w' ∧ HeapRel F β' N' H' w' := by
  have hl : ∀ b, live β' H' b → (F.anew β H w fx).mine b := fun b h => (live_mine hR' h).2
  have hlt : ∀ {b : Nat}, ¬ (F.anew β H w fx).mine b → b < w.heap.size := fun h => Nat.lt_of_not_le fun e => h (.inl e)
  have e1 : MV (F.anew β H w fx) β' H' w' = MV F β' H' w' := by
    funext b o
    by_cases h1 : (F.anew β H w fx).mine b
    · have h2 := mine_anew hR h1
      unfold MV
      rw [if_pos h1, if_pos h2]
    · unfold MV
      rw [if_neg h1]
      show MV F β H w b o = _
      unfold MV
      split
      · rw [if_pos (stable_dead fun h => h1 (.inr h)), if_pos (stable_dead fun h => h1 (hl b h))]
        exact (World.cell?_of_block (w := w) (a := ⟨b, o, none⟩) (hR'.below.block b (hlt h1) h1)).symm
      · rfl
  have e2 : MR (F.anew β H w fx) β' H' w' = MR F β' H' w' := by
    funext b o
    by_cases h1 : (F.anew β H w fx).mine b
    · have h2 := mine_anew hR h1
      unfold MR
      rw [if_pos h1, if_pos h2, e1]
    · have e : MR (F.anew β H w fx) β' H' w' b o = MR F β H w b o := by
        have e : MR (F.anew β H w fx) β' H' w' b o = (F.anew β H w fx).mr0 b o := by unfold MR; rw [if_neg h1]
        exact e
      rw [e]
      by_cases h2 : F.mine b
      · unfold MR MV
        rw [if_pos h2, if_pos h2, if_pos h2, if_pos h2, if_pos (stable_dead fun h => h1 (.inr h)), if_pos (stable_dead fun h => h1 (hl b h))]
        exact (World.cell?_of_block (w := w) (a := ⟨b, o, none⟩) (hR'.below.block b (hlt h1) h1)).symm
      · unfold MR
        rw [if_neg h2, if_neg h2]
  have hk : Keep F.mine w w' := hR'.below.mono fun b _ h => mine_anew hR h
  have hmv : (MV F β H w).le (MV F β' H' w') := by
    rw [← e1]
    intro b o v e
    obtain ⟨h3, h4⟩ := hR'.mem0 b o v e
    unfold MV
    split
    · rename_i h1; rw [if_pos (h4 h1)]; exact h3
    · exact e
  refine ⟨e1, e2, ⟨hR'.below.size, fun b o e hn => ?_, fun b h => ?_, hmv⟩, fun id blk e => ⟨(hR'.rel id blk e).1, ?_⟩, hR'.inj, hR.below.trans hk, fun b o v e => ?_⟩
  · rw [hR'.below.block b (blk_lt e) ?_]
    · exact e
    · rintro (h | h)
      · have := blk_lt e; have h : w.heap.size ≤ b := h; omega
      · exact hn h
  · rcases hl b h with h | h
    · exact .inr h
    · exact .inl h
  · exact blkRel_eq e1 e2 (fun b hb hm => mine_anew hR hm) (hR'.rel id blk e).2
  · obtain ⟨h1, h2⟩ := hR.mem0 b o v e
    have hmv0 : MV F β H w b o = some v := by
      unfold MV
      split
      · rename_i hm; rw [if_pos (h2 hm)]; exact h1
      · exact e
    have h3 := hmv b o v hmv0
    refine ⟨?_, fun hm => ?_⟩
    · have := (hR'.mem0 b o v hmv0).1; exact this
    · unfold MV at h3
      rw [if_pos hm] at h3
      split at h3
      · assumption
      · cases h3
def objMap : Obj → Bool
  | .map _ _ => true
  | _ => false
theorem noMapL_get : ∀ {H : Hp}, noMapL H = true → ∀ id es, H.get id ≠ some (.map es)
  | [], _, id, es, h => by simp [Hp.get] at h
  | (j, b) :: H, hn, id, es, h => by
    have hn' : noMapL H = true := by
      cases b with
      | none => exact hn
      | some b => cases b <;> first | exact hn | cases hn
    rw [Hp.get_cons] at h
    by_cases hj : id = j
    · subst hj
      rw [updH_same] at h; subst h; cases hn
    · rw [updH_ne _ _ _ hj] at h
      exact noMapL_get hn' id es h
theorem Tr.walk (_hR : HeapRel F β N H w) {row : Option Nat} (hg : w.grownBy w' row) (hr : ∀ r, row = some r → F.base ≤ r ∧ ∃ o : Obj, w.heap[r]? = some o ∧ o.isCells = false ∧ (∀ x, o ≠ .deferred x)) : Tr F β N H w β N H w' := by
  have hkc : ∀ {b : Nat} {arr : Array Value} {T : TypeId}, w.heap[b]? = some (.cells arr T) → w'.heap[b]? = some (.cells arr T) := fun {b arr T} e =>
    (grownBy_keeps_cells hg (fun r h => let ⟨_, o, h1, h2, _⟩ := hr r h; ⟨o, h1, h2⟩) e rfl).trans e
  refine ⟨⟨hg.os, hg.tape, hg.output, hg.size, fun k hk hm => hg.block k hk fun e => hm (.inl (hr k e.symm).1)⟩, fun b o v _ hs e => ⟨hs, ?_⟩, fun _ h => h, fun _ _ => rfl, fun _ b _ e => ⟨b, e, b.like_refl⟩, fun _ _ _ b arr T _ _ _ _ _ e => ⟨arr, hkc e, rfl⟩, fun k x e => ?_⟩
  · exact cell_kept (a := ⟨b, o, none⟩) e hg fun r h => let ⟨_, o, h1, h2, _⟩ := hr r h; ⟨o, h1, h2⟩
  · rw [hg.block k (blk_lt e) fun h => ?_]
    · exact e
    · obtain ⟨_, o, h1, _, h3⟩ := hr k h.symm
      rw [e] at h1; cases h1
      exact h3 x rfl
theorem HeapRel.walk (hR : HeapRel F β N H w) {row : Option Nat} (hg : w.grownBy w' row) (hr : ∀ r, row = some r → F.base ≤ r ∧ ∃ o : Obj, w.heap[r]? = some o ∧ o.isCells = false ∧ (∀ x, o ≠ .deferred x)) (hm : (∀ r o, row = some r → w.heap[r]? = some o → objMap o = false) ∨ ∀ id es, H id ≠ some (.map es)) : HeapRel F β N H w' := by
  refine hR.step (Tr.walk hR hg hr) (fun _ => False) (fun id blk _ e => ⟨e, (hR.rel id blk e).1, fun b hb => ?_⟩) (fun _ _ h => h.elim) hR.inj
  have hlt := (hR.live_lt e hb).1
  refine hg.block b hlt fun h => ?_
  obtain ⟨_, o, h1, h2, _⟩ := hr b h.symm
  have hc : (∃ arr T, w.heap[b]? = some (.cells arr T)) ∨ ∃ es ck, w.heap[b]? = some (.map es ck) := by
    obtain ⟨_, hB⟩ := hR.rel id blk e
    cases blk with
    | map es => obtain ⟨b', arr, T, q1, q2, q3, _⟩ := hB; rw [hb] at q1; cases q1; exact .inr ⟨arr, T, q3⟩
    | box t cs => obtain ⟨b', arr, T, q1, q2, q3, _⟩ := hB; rw [hb] at q1; cases q1; exact .inl ⟨arr, T, q3⟩
    | fbox cs => obtain ⟨b', arr, T, q1, q2, q3, _⟩ := hB; rw [hb] at q1; cases q1; exact .inl ⟨arr, T, q3⟩
    | row m z c =>
      obtain ⟨_, q1 | ⟨b', cap, q1, q2, arr, T, q3, _⟩⟩ := hB
      · rw [q1.1] at hb; cases hb
      · rw [hb] at q1; cases q1; exact .inl ⟨arr, T, q3⟩
    | rowD z l =>
      obtain ⟨_, q1 | ⟨b', cap, arr, T, q1, q2, q3, _⟩⟩ := hB
      · rw [q1.1] at hb; cases hb
      · rw [hb] at q1; cases q1; exact .inl ⟨arr, T, q3⟩
  rcases hc with ⟨arr, T, hc⟩ | ⟨es, ck, hc⟩
  · rw [hc] at h1; cases h1; cases h2
  · rw [hc] at h1; cases h1
    rcases hm with hm | hm
    · have := hm b _ h.symm hc; cases this
    · obtain ⟨_, hB⟩ := hR.rel id blk e
      cases blk with
      | map es' => exact hm id es' e
      | box t cs => obtain ⟨b', arr, T, q1, q2, q3, _⟩ := hB; rw [hb] at q1; cases q1; rw [hc] at q3; cases q3
      | fbox cs => obtain ⟨b', arr, T, q1, q2, q3, _⟩ := hB; rw [hb] at q1; cases q1; rw [hc] at q3; cases q3
      | row m z c =>
        obtain ⟨_, q1 | ⟨b', cap, q1, q2, arr, T, q3, _⟩⟩ := hB
        · rw [q1.1] at hb; cases hb
        · rw [hb] at q1; cases q1; rw [hc] at q3; cases q3
      | rowD z l =>
        obtain ⟨_, q1 | ⟨b', cap, arr, T, q1, q2, q3, _⟩⟩ := hB
        · rw [q1.1] at hb; cases hb
        · rw [hb] at q1; cases q1; rw [hc] at q3; cases q3
end
theorem piece (hC : C.Ok) (hG : Globs C F) {l n : Nat} {c : Code} {S : St} {kn : St → Prop} {kr : St → Prop} {a : Act} {w : World} {Q : Exit → Act → World → Prop} {β : Nat → Option Nat} {N : Nat → Prop} {fx : List Nat} (hf : flatC c = true) (hc : codeOk nt c = true) (hfr : codeFree fx c = true) (hQ : ¬ LetsOut Q)
    (h : awp C c S kn (fun _ _ => False) kr) (hd : DefersOk F.db a.defers w) (hr : RelB F nt S a.tmps w β N)
    (h1 : ∀ S1 a' w', kn S1 → (∀ S', Sub S1 S' → ∃ β' N', RelB F nt S' a'.tmps w' β' N' ∧ StepR F β S.hp.get w β' S'.hp.get w' ∧ (∀ s ∈ fx, a'.tmps.getD s undef = a.tmps.getD s undef) ∧ DefersOk F.db a'.defers w') → Q .normal a' w')
    (h3 : ∀ S1 a' w', kr S1 → (∀ S', Sub S1 S' → ∃ β' N', RelB F nt S' a'.tmps w' β' N' ∧ StepR F β S.hp.get w β' S'.hp.get w' ∧ (∀ s ∈ fx, a'.tmps.getD s undef = a.tmps.getD s undef) ∧ DefersOk F.db a'.defers w') → Q .ret a' w') :
    c.wpIn (Fence.wide.inRound l) n C.P Q a w := by
  obtain ⟨q1, q2, q3, q4⟩ := hr
  let fxv : List (Nat × Value) := fx.map fun s => (s, a.tmps.getD s undef)
  have hG1 : Globs C (F.anew β S.hp.get w fxv) := by
    refine ⟨GlobOK.later hG q3, fun b o v e => MV_rd hG q3 e, fun g cs hm hpos hl => ?_, GlobOK.mr hG, MR_rd0 hG q3, MV_le_MR hG q3⟩
    obtain ⟨v, e1, _⟩ := (hG.ok g cs hm).1 0 cs[0] (by simp [hpos])
    exact not_mine e1 (hG.nown g cs hm hpos) (live_mine q3 hl).2
  have hfst : fxv.map Prod.fst = fx := by simp [fxv, Function.comp_def]
  have hrel : Rel (F.anew β S.hp.get w fxv) nt S a w := by
    refine ⟨N, ⟨q1, hd, ?_, β, fun s dv e => (repDV_eq (MV_anew q3) (MR_anew q3)).2 (q2 s dv e), HeapRel.anew hG q3⟩, q4⟩
    intro p hp
    obtain ⟨s, _, rfl⟩ := List.mem_map.1 hp
    rfl
  have back : ∀ {S1 : St} {a' : Act} {w' : World}, Rel (F.anew β S.hp.get w fxv) nt S1 a' w' → ∀ S', Sub S1 S' → ∃ β' N', RelB F nt S' a'.tmps w' β' N' ∧ StepR F β S.hp.get w β' S'.hp.get w' ∧ (∀ s ∈ fx, a'.tmps.getD s undef = a.tmps.getD s undef) ∧ DefersOk F.db a'.defers w' := by
    intro S1 a' w' hr S' hs
    obtain ⟨N', ⟨r1, r2, r3, β', r4, r5⟩, r6⟩ := hs _ _ _ _ hr
    obtain ⟨e1, e2, e3, e4⟩ := back_step q3 r5
    refine ⟨β', N', ⟨r1, fun s dv e => (repDV_eq e1 e2).1 (r4 s dv e), e4, r6⟩, e3, fun s hs => ?_, r2⟩
    exact r3 (s, a.tmps.getD s undef) (List.mem_map.2 ⟨s, hs, rfl⟩)
  exact awp_round hC hG1 hf hc (by show codeFree (fxv.map Prod.fst) c = true; rw [hfst]; exact hfr) hQ h hrel (fun S1 a' w' hk hr' => h1 S1 a' w' hk (back hr')) (fun _ _ _ _ h => h.elim) fun S1 a' w' hk hr' => h3 S1 a' w' hk (back hr')
def setAll (ps : List Tmp) (vs : List Value) (t : Array Value) : Array Value := (ps.zip vs).foldl (fun t p => t.setIfInBounds p.1 p.2) t
theorem setAll_size : ∀ (ps : List Tmp) (vs : List Value) (t : Array Value), (setAll ps vs t).size = t.size
  | [], _, _ => rfl
  | _ :: _, [], _ => rfl
  | p :: ps, v :: vs, t => by
    show (setAll ps vs (t.setIfInBounds p v)).size = _
    rw [setAll_size]; simp
theorem setAll_other {s : Nat} : ∀ (ps : List Tmp) (vs : List Value) (t : Array Value), s ∉ ps → (setAll ps vs t).getD s undef = t.getD s undef
  | [], _, _, _ => rfl
  | _ :: _, [], _, _ => rfl
  | p :: ps, v :: vs, t, h => by
    show (setAll ps vs (t.setIfInBounds p v)).getD s undef = _
    rw [setAll_other ps vs _ (fun e => h (List.mem_cons_of_mem _ e))]
    have : p ≠ s := fun e => h (by rw [e]; simp)
    simp [Array.getD_eq_getD_getElem?, Array.getElem?_setIfInBounds_ne this]
theorem params_env {β : Nat → Option Nat} {N : Nat → Prop} {H : HF} {w : World} : ∀ (ps : List Tmp) (vs : List Value) (rs : List SV) (t : Array Value) (E : Env), vs.length = ps.length → rs.length = ps.length →
    (∀ (k : Nat) (r : SV), rs[k]? = some r → RepDX F β N H w (vs.getD k undef) (dyn r)) → (∀ p ∈ ps, p < t.size) → (∀ s dv, E.get s = some dv → RepDV F β N H w (t.getD s undef) dv) →
    ∀ s dv, (params ps rs E).get s = some dv → RepDV F β N H w ((setAll ps vs t).getD s undef) dv
  | [], _, [], _, _, _, _, _, _, h => h
  | p :: ps, v :: vs, r :: rs, t, E, h1, h2, h3, h4, h => by
    refine params_env ps vs rs (t.setIfInBounds p v) ((p, some (.val (dyn r))) :: E) (by simpa using h1) (by simpa using h2) (fun k r' hk => ?_) (fun q hq => by simpa using h4 q (List.mem_cons_of_mem _ hq)) (fun s dv e => ?_)
    · simpa using h3 (k + 1) r' (by simpa using hk)
    · rw [Env.get_cons] at e
      have hlt := h4 p List.mem_cons_self
      by_cases hs : s = p
      · subst hs
        simp at e; subst e
        have : (t.setIfInBounds s v).getD s undef = v := by simp [Array.getD_eq_getD_getElem?, hlt]
        rw [this]
        show RepDX _ _ _ _ _ _ _
        simpa using h3 0 r rfl
      · simp only [hs, if_false] at e
        have : (t.setIfInBounds p v).getD s undef = t.getD s undef := by simp [Array.getD_eq_getD_getElem?, Array.getElem?_setIfInBounds_ne (Ne.symm hs)]
        rw [this]; exact h s dv e
  | _ :: _, [], _, _, _, h1, _, _, _, _ => by simp at h1
  | _ :: _, _ :: _, [], _, _, _, h2, _, _, _ => by simp at h2
  | [], _, _ :: _, _, _, _, h2, _, _, _ => by simp at h2
theorem keysOf_get {E : Env} {s : Nat} {dv : DV} (h : E.get s = some dv) : s ∈ keysOf E := by
  induction E with
  | nil => simp [Env.get] at h
  | cons p E ih =>
    obtain ⟨k, b⟩ := p
    rw [Env.get_cons] at h
    by_cases hs : s = k
    · subst hs; simp [keysOf]
    · simp only [hs, if_false] at h
      exact List.mem_cons_of_mem _ (ih h)
theorem tmpsFree_spec {l : List Nat} {ps : List Tmp} (h : tmpsFree l ps = true) : ∀ p ∈ ps, p ∉ l := by
  induction ps with
  | nil => simp
  | cons q ps ih =>
    rw [tmpsFree] at h
    obtain ⟨h1, h2⟩ := ble_and h
    intro p hp
    rcases List.mem_cons.1 hp with rfl | hp
    · exact natFree_not h1
    · exact ih h2 p hp
def Between (F : Fix) (nt : Nat) (E : Env) (H : Hp) (nx : Nat) (a : Act) (mv : Mem) (M : Nat → Prop) (w : World) : Prop :=
  ∃ β N, RelB F nt ⟨E, H, nx⟩ a.tmps w β N ∧ DefersOk F.db a.defers w ∧ mv.le (MV F β H.get w) ∧ (∀ b, M b ↔ live β H.get b) ∧ ∀ id es, H.get id ≠ some (.map es)
theorem Between.walk {E : Env} {H : Hp} {nx : Nat} {a : Act} {mv : Mem} {M : Nat → Prop} {w w' : World} (h : Between F nt E H nx a mv M w) {row : Option Nat} (hg : w.grownBy w' row)
    (hr : ∀ r, row = some r → F.base ≤ r ∧ ∃ o : Obj, w.heap[r]? = some o ∧ o.isCells = false ∧ (∀ x, o ≠ .deferred x)) : Between F nt E H nx a mv M w' := by
  obtain ⟨β, N, ⟨q1, q2, q3, q4⟩, q5, q6, q7, q8⟩ := h
  have t := Tr.walk q3 hg hr
  exact ⟨β, N, ⟨q1, fun s dv e => t.repDV q3 (q2 s dv e), q3.walk hg hr (.inr q8), q4⟩, q5.keep t.others, fun b o v e => t.mv b o v (q6 b o v e), q7, q8⟩
theorem live_cells {β : Nat → Option Nat} {N : Nat → Prop} {H : HF} {w : World} (hR : HeapRel F β N H w) {b : Nat} (h : live β H b) : (∃ arr T, w.heap[b]? = some (.cells arr T)) ∨ ∃ es ck, w.heap[b]? = some (.map es ck) := by
  obtain ⟨id, blk, e, hb⟩ := h
  obtain ⟨_, hB⟩ := hR.rel id blk e
  cases blk with
  | map es => obtain ⟨b', arr, T, q1, q2, q3, _⟩ := hB; rw [hb] at q1; cases q1; exact .inr ⟨arr, T, q3⟩
  | box t cs => obtain ⟨b', arr, T, q1, q2, q3, _⟩ := hB; rw [hb] at q1; cases q1; exact .inl ⟨arr, T, q3⟩
  | fbox cs => obtain ⟨b', arr, T, q1, q2, q3, _⟩ := hB; rw [hb] at q1; cases q1; exact .inl ⟨arr, T, q3⟩
  | row m z c =>
    obtain ⟨_, q1 | ⟨b', cap, q1, q2, arr, T, q3, _⟩⟩ := hB
    · rw [q1.1] at hb; cases hb
    · rw [hb] at q1; cases q1; exact .inl ⟨arr, T, q3⟩
  | rowD z l =>
    obtain ⟨_, q1 | ⟨b', cap, arr, T, q1, q2, q3, _⟩⟩ := hB
    · rw [q1.1] at hb; cases hb
    · rw [hb] at q1; cases q1; exact .inl ⟨arr, T, q3⟩
theorem range_sound (hC : C.Ok) (hG : Globs C F) {g : Operand} {ps : Array Tmp} {x y : Code} {E : Env} {gf : FuncId} {first : List SV} {caps : List (List SC)} {xs : List (List SV)} {Hs : Nat → Hp} {nx : Nat} {Inv : Nat → Prop} {kr : St → Prop} {a : Act} {w : World} {Q : Exit → Act → World → Prop}
    (hok : codeOk nt (.rangeFunc g ps x y) = true) (hg : C.ev E.get g = some (.val (false, [.st (.fn gf first caps)]))) (hit : SatIt C.P C.gl gf first caps xs) (hlen : ∀ r ∈ xs, r.length = ps.size)
    (hfl : flatC x = true ∧ flatC y = true ∧ codeFree (keysOf E) x = true ∧ codeFree (keysOf E) y = true ∧ tmpsFree (keysOf E) ps.toList = true)
    (hnm : ∀ i, noMapL (Hs i) = true) (hrel : Rel F nt ⟨E, Hs 0, nx⟩ a w) (hdb : F.db ≤ F.base) (hi0 : Inv 0)
    (hbody : ∀ i r, xs[i]? = some r → Inv i → awp C x ⟨params ps.toList r E, Hs i, nx⟩ (fun S1 => ∃ S1', Sub S1 S1' ∧ awp C y S1' (fun S2 => Inv (i + 1) ∧ Sub S2 ⟨E, Hs (i + 1), nx⟩) (fun _ _ => False)
      (fun S2 => ∃ Hr nr, noMapL Hr = true ∧ Sub S2 ⟨E, Hr, nr⟩ ∧ kr ⟨E, Hr, nr⟩)) (fun _ _ => False) (fun _ => False))
    (hdone : Inv xs.length → ∀ a' w', Rel F nt ⟨E, Hs xs.length, nx⟩ a' w' → Q .normal a' w') (hstop : ∀ S a' w', kr S → Rel F nt S a' w' → Q .ret a' w') : (Code.rangeFunc g ps x y).wp C.P Q a w := by
  refine (wpIn_wide (n := 0)).1 ?_
  refine wpIn_rangeFunc fun fn hfn => ?_
  obtain ⟨hps, hcx, hcy⟩ : (∀ p ∈ ps.toList, p < nt) ∧ codeOk nt x = true ∧ codeOk nt y = true := by
    obtain ⟨h1, h2⟩ := ble_and (a := ps.toList.all fun p => Nat.blt p nt) (b := codeOk nt x && codeOk nt y) hok
    obtain ⟨h2, h3⟩ := ble_and h2
    exact ⟨fun p hp => by simpa [Nat.blt_eq] using List.all_eq_true.1 h1 p hp, h2, h3⟩
  obtain ⟨fx, fy, gx, gy, gp⟩ := hfl
  obtain ⟨N, ⟨hs, hdf, hfx0, β, hE, hR⟩, hN⟩ := hrel
  obtain ⟨fv, cv, hfe, hfv, hcv⟩ := fn_parts ((ev_ok hG hR hE hg).one_inv : Rep _ _ _ _)
  obtain ⟨xv, hxl, hxr, hI⟩ := hit.2 (MV F β (Hs 0).get w) (MR F β (Hs 0).get w) w fv cv (MV_le_MR hG hR) (MR_rd hG hR) (GlobOK.later hG hR) hfv hcv
  have hro : Fence.wide.round = none := rfl
  rw [hro]
  let rec' : LoopState → Option Code → Loop := fun st pe => { state := st, pending := pe, fn, tmps := a.tmps, params := ps, assign := x, body := y, defers := w.heap.size }
  let D := w.heap.size
  let L := w.heap.size + 1
  generalize hW1 : (w.alloc (.deferred (some []))).alloc (.loop (rec' .ready none)) = W1
  have s1 : W1.heap.size = w.heap.size + 2 := by rw [← hW1]; simp
  have hL : W1.heap[L]? = some (.loop (rec' .ready none)) := by
    rw [← hW1]; have := World.alloc_heap_new (w.alloc (.deferred (some []))) (.loop (rec' .ready none)); rwa [World.size_alloc] at this
  have hD : W1.heap[D]? = some (.deferred (some [])) := by
    rw [← hW1]; exact (Below.heap_alloc _ _ _ (by simp [D])).trans (World.alloc_heap_new w _)
  have hb1 : Below w.heap.size w W1 := by rw [← hW1]; exact ((Below.refl _ w).alloc (Nat.le_refl _) _).alloc (by simp) _
  have hbase : F.base ≤ w.heap.size := hR.below.size
  have tG := Tr.grow hR hb1
  have hB1 : Between F nt E (Hs 0) nx a (MV F β (Hs 0).get w) (live β (Hs 0).get) W1 :=
    ⟨β, N, ⟨hs, fun s dv e => tG.repDV hR (hE s dv e), hR.grow hb1, hN⟩, hdf.keep tG.others, tG.mv, fun _ => Iff.rfl, noMapL_get (hnm 0)⟩
  refine ⟨L, [{ target := .collected D, args := #[] }], W1, { target := .fn (.func gf) cv, args := fv ++ #[.func (.yield L) #[] #[]] }, W1, gf, fv ++ #[.func (.yield L) #[] #[]] ++ cv, W1, ?_, ?_, fun _ _ => trivial, ?_, fun h => by simp [Fence.wide] at h, ?_⟩
  · rw [← hW1]; exact run_enterLoop_outer _ _ _ _ _
  · simp only [resolve, hfe]
    simp [go_sem, L]
  · simp [invoke, go_sem, enters_ok hit.1]
  have wk : ∀ {H : Hp} {M : Nat → Prop} {n : Nat} {W : World} {r r' : Loop}, Between F nt E H n a (MV F β (Hs 0).get w) M W → W.heap[L]? = some (.loop r) → Between F nt E H n a (MV F β (Hs 0).get w) M (W.putObj L (.loop r')) := fun h hl =>
    h.walk (grownBy_putObj' _ L _) fun r e => by cases e; exact ⟨by show F.base ≤ L; omega, _, hl, rfl, fun x => by simp⟩
  have hDL : D ≠ L := by simp [D, L]
  refine (hI L (fun s W => (Inv s.1 ∧ Between F nt E (Hs s.1) nx a (MV F β (Hs 0).get w) s.2 W) ∧ W.heap[L]? = some (.loop (rec' .ready none)) ∧ W.heap[D]? = some (.deferred (some [])))
    (fun _ W => (∃ Hr nr M, kr ⟨E, Hr, nr⟩ ∧ Between F nt E Hr nr a (MV F β (Hs 0).get w) M W) ∧ W.heap[L]? = some (.loop (rec' .done (some .ret))) ∧ W.heap[D]? = some (.deferred (some []))) W1 (live β (Hs 0).get) hb1
    (fun b hb => by have := (live_mine hR hb).1; omega) ?_ ?_ ?_ ?_ ⟨⟨hi0, hB1⟩, hL, hD⟩).mono ?_
  · intro s A B row hs hg' hr
    exact ⟨⟨hs.1.1, hs.1.2.walk hg' fun r e => let ⟨h1, o, h2, h3⟩ := hr r e; ⟨by omega, o, h2, Obj.not_cells_of_walk h3, fun x e => by subst e; simp [Obj.isWalk] at h3⟩⟩, (grownBy_keeps hg' (fun r e => (hr r e).2) hs.2.1 rfl).trans hs.2.1, (grownBy_keeps hg' (fun r e => (hr r e).2) hs.2.2 rfl).trans hs.2.2⟩
  · intro s A B row hs hg' hr
    obtain ⟨⟨Hr, nr, M, hk, hB⟩, h2, h3⟩ := hs
    exact ⟨⟨Hr, nr, M, hk, hB.walk hg' fun r e => let ⟨h1, o, h2, h3⟩ := hr r e; ⟨by omega, o, h2, Obj.not_cells_of_walk h3, fun x e => by subst e; simp [Obj.isWalk] at h3⟩⟩, (grownBy_keeps hg' (fun r e => (hr r e).2) h2 rfl).trans h2, (grownBy_keeps hg' (fun r e => (hr r e).2) h3 rfl).trans h3⟩
  · rintro s W ⟨⟨_, β', N', q1, _, q3, _⟩, _⟩ b o v e
    refine MR_rd hG q1.heap b o v ?_
    unfold MR at e ⊢
    split
    · rename_i hm; rw [if_pos hm] at e; exact q3 b o v e
    · rename_i hm; rw [if_neg hm] at e; exact e
  · rintro i M xr W hx ⟨⟨hinv, β0, N0, q1, q2, q3, q4, _⟩, hl, hd⟩
    have hi : i < xs.length := by rw [← hxl]; exact (List.getElem?_eq_some_iff.1 hx).1
    have hr := hxr i xr xs[i] hx (List.getElem?_eq_getElem hi)
    have hrl : xs[i].length = ps.size := hlen _ (List.getElem_mem hi)
    have hxs : xr.size = ps.size := by rw [hr.1, hrl]
    refine ⟨fn, _, x, y, run_yield hl hxs, roundIn_of_wpIn hfn ?_⟩
    have hfold : (ps.zip xr).foldl (fun tmps (p : Tmp × Value) => tmps.setIfInBounds p.1 p.2) a.tmps = setAll ps.toList xr.toList a.tmps := by
      unfold setAll
      rw [← Array.foldl_toList, Array.toList_zip]
    show x.wpIn _ _ _ _ { tmps := (ps.zip xr).foldl (fun tmps (p : Tmp × Value) => tmps.setIfInBounds p.1 p.2) a.tmps, defers := [] } W
    rw [hfold]
    have hdead : ∀ {H : HF} {β' : Nat → Option Nat} {N' : Nat → Prop} {A : World} {k : Nat} {o : Obj}, HeapRel F β' N' H A → A.heap[k]? = some o → o.isCells = false → objMap o = false → ¬ live β' H k := by
      intro H β' N' A k o hR' ho hc hm hl'
      rcases live_cells hR' hl' with ⟨arr, T, e⟩ | ⟨es, ck, e⟩
      · rw [e] at ho; cases ho; cases hc
      · rw [e] at ho; cases ho; cases hm
    have hrow : RelB F nt ⟨params ps.toList xs[i] E, Hs i, nx⟩ (setAll ps.toList xr.toList a.tmps) W β0 N0 := by
      refine ⟨by rw [setAll_size]; exact q1.size, ?_, q1.heap, q1.ids⟩
      refine params_env ps.toList xr.toList xs[i] a.tmps E (by simp [hxs]) (by simp [hrl]) (fun k r hk => ?_) (fun p hp => by rw [q1.size]; exact hps p hp) q1.env
      have h := hr.2 k r hk
      have e : xr.toList.getD k undef = xr.getD k undef := by simp [Array.getD_eq_getD_getElem?, List.getD_eq_getElem?_getD]
      rw [e]
      exact RepB.dyn (h.mono q3 (nomem_le _))
    have hfixp : ∀ s ∈ keysOf E, (setAll ps.toList xr.toList a.tmps).getD s undef = a.tmps.getD s undef := fun s hs => setAll_other _ _ _ fun hp => tmpsFree_spec gp s hp hs
    refine piece (fx := keysOf E) hC hG fx hcx gx (by rintro ⟨a', w', h⟩; exact h) (hbody i xs[i] (List.getElem?_eq_getElem hi) hinv) (DefersOk.nil _ W) hrow (fun S1 a1 w1 hk back => ?_) fun S1 a1 w1 hk back => hk.elim
    obtain ⟨S1', hsub, hy⟩ := hk
    obtain ⟨β1, N1, p1, p2, p3, p4⟩ := back S1' hsub
    have hl1 := p2.keep L _ hl (hdead q1.heap hl rfl rfl)
    have hd1 := p2.keep D _ hd (hdead q1.heap hd rfl rfl)
    have hlt1 : L < w1.heap.size := blk_lt hl1
    refine ⟨_, run_beginRound hl1 rfl, ?_⟩
    have hgb := grownBy_putObj' w1 L (.loop { rec' .ready none with state := .busy })
    have hgr : ∀ r, some L = some r → F.base ≤ r ∧ ∃ o : Obj, w1.heap[r]? = some o ∧ o.isCells = false ∧ (∀ x, o ≠ .deferred x) := fun r e => by cases e; exact ⟨by show F.base ≤ L; omega, _, hl1, rfl, fun x => by simp⟩
    have t2 := Tr.walk p1.heap hgb hgr
    have hl2 : (w1.putObj L (.loop { rec' .ready none with state := .busy })).heap[L]? = some (.loop { rec' .ready none with state := .busy }) := World.putObj_heap_same hlt1
    have hd2 : (w1.putObj L (.loop { rec' .ready none with state := .busy })).heap[D]? = some (.deferred (some [])) := (World.putObj_heap_other hDL).trans hd1
    have r2 : RelB F nt S1' a1.tmps (w1.putObj L (.loop { rec' .ready none with state := .busy })) β1 N1 := ⟨p1.size, fun s dv e => t2.repDV p1.heap (p1.env s dv e), p1.heap.walk hgb hgr (.inl fun r o e ho => by cases e; rw [hl1] at ho; cases ho; rfl), p1.ids⟩
    have mv1 : (MV F β (Hs 0).get w).le (MV F β1 S1'.hp.get (w1.putObj L (.loop { rec' .ready none with state := .busy }))) := fun b o v e => t2.mv b o v (p2.mv b o v (q3 b o v e))
    have df2 : DefersOk F.db a.defers (w1.putObj L (.loop { rec' .ready none with state := .busy })) := by
      refine DefersOk.keep q2 fun k xx e => ?_
      have := p2.keep k _ e (hdead q1.heap e rfl rfl)
      exact t2.others k xx this
    refine piece (fx := keysOf E) hC hG fy hcy gy (by rintro ⟨a', w', h⟩; exact h) hy (p4.keep t2.others) r2 (fun S2 a2 w2 hk back => ?_) (fun S2 a2 w2 hk back => ?_)
    · obtain ⟨hinv', hk⟩ := hk
      obtain ⟨β3, N3, u1, u2, u3, u4⟩ := back _ hk
      have hl3 := u2.keep L _ hl2 (hdead r2.heap hl2 rfl rfl)
      have hd3 := u2.keep D _ hd2 (hdead r2.heap hd2 rfl rfl)
      have hlt3 : L < w2.heap.size := blk_lt hl3
      refine ⟨_, _, run_endRound (P := C.P) none hl3, .inl ⟨rfl, live β3 (Hs (i + 1)).get, ⟨⟨hinv', ?_⟩, World.putObj_heap_same hlt3, (World.putObj_heap_other hDL).trans hd3⟩, ?_, ?_, ?_⟩⟩
      · refine wk (r := { rec' .ready none with state := .busy }) ?_ hl3
        refine ⟨β3, N3, ⟨q1.size, fun s dv e => ?_, u1.heap, u1.ids⟩, df2.keep fun k xx e => u2.keep k _ e (hdead r2.heap e rfl rfl), fun b o v e => u2.mv b o v (mv1 b o v e), fun _ => Iff.rfl, noMapL_get (hnm (i + 1))⟩
        have hk' := keysOf_get e
        have e3 : a2.tmps.getD s undef = a.tmps.getD s undef := (u3 s hk').trans ((p3 s hk').trans (hfixp s hk'))
        have := u1.env s dv e
        rwa [e3] at this
      · have h1 := p2.size; have h2 := u2.size
        simp only [World.putObj_size] at h2 ⊢
        omega
      · intro b hb
        have h0 := p2.size
        rcases u2.live b hb with h | h
        · rcases p2.live b h with h | h
          · exact .inl ((q4 b).2 h)
          · exact .inr h
        · simp only [World.putObj_size] at h
          exact .inr (by omega)
      · intro b arr T e hM
        have n0 : ¬ live β0 (Hs i).get b := fun h => hM ((q4 b).2 h)
        have hbl : b < W.heap.size := blk_lt e
        have e1 := p2.keep b _ e n0
        have hne : b ≠ L := fun h => by subst h; rw [hl1] at e1; cases e1
        have n1 : ¬ live β1 S1'.hp.get b := fun h => by
          rcases p2.live b h with h | h
          · exact n0 h
          · omega
        have e2 : (w1.putObj L (.loop { rec' .ready none with state := .busy })).heap[b]? = some (.cells arr T) := (World.putObj_heap_other hne).trans e1
        have e3 := u2.keep b _ e2 n1
        exact (World.putObj_heap_other hne).trans e3
    · obtain ⟨Hr, nr, hnr, hsub, hkr⟩ := hk
      obtain ⟨β3, N3, u1, u2, u3, u4⟩ := back _ hsub
      have hl3 := u2.keep L _ hl2 (hdead r2.heap hl2 rfl rfl)
      have hd3 := u2.keep D _ hd2 (hdead r2.heap hd2 rfl rfl)
      have hlt3 : L < w2.heap.size := blk_lt hl3
      refine ⟨_, _, run_endRound (P := C.P) (some .ret) hl3, .inr ⟨rfl, ⟨Hr, nr, live β3 Hr.get, hkr, ?_⟩, World.putObj_heap_same hlt3, (World.putObj_heap_other hDL).trans hd3⟩⟩
      refine wk (r := { rec' .ready none with state := .busy }) ?_ hl3
      refine ⟨β3, N3, ⟨q1.size, fun s dv e => ?_, u1.heap, u1.ids⟩, df2.keep fun k xx e => u2.keep k _ e (hdead r2.heap e rfl rfl), fun b o v e => u2.mv b o v (mv1 b o v e), fun _ => Iff.rfl, noMapL_get hnr⟩
      have hk' := keysOf_get e
      have e3 : a2.tmps.getD s undef = a.tmps.getD s undef := (u3 s hk').trans ((p3 s hk').trans (hfixp s hk'))
      have := u1.env s dv e
      rwa [e3] at this
  · have fin : ∀ {H : Hp} {n : Nat} {M : Nat → Prop} {W : World} {r r' : Loop}, Between F nt E H n a (MV F β (Hs 0).get w) M W → W.heap[L]? = some (.loop r) → W.heap[D]? = some (.deferred (some [])) →
        Rel F nt ⟨E, H, n⟩ { a with defers := [{ target := .collected D, args := #[] }] ++ a.defers } (W.putObj L (.loop r')) := by
      intro H n M W r r' hB hl hd
      obtain ⟨β3, N3, u1, u2, _, _, _⟩ := wk (r' := r') hB hl
      refine ⟨N3, ⟨u1.size, ⟨?_, ?_⟩, hfx0, β3, u1.env, u1.heap⟩, u1.ids⟩
      · intro d hd'
        rcases List.mem_cons.1 hd' with rfl | hd'
        · exact ⟨D, rfl, (World.putObj_heap_other hDL).trans hd, Nat.le_trans hdb hbase⟩
        · exact u2.all d hd'
      · refine List.nodup_cons.2 ⟨fun hm => ?_, u2.nodup⟩
        obtain ⟨D', h1, h2, _⟩ := hdf.all _ hm
        simp at h1
        have := blk_lt h2
        omega
    rintro e W2 ⟨⟨v, rfl⟩, (⟨M, ⟨hinv, hi⟩, hl, hd⟩ | ⟨⟨Hr, nr, M, hk, hi⟩, hl, hd⟩)⟩
    · refine ⟨none, _, run_endLoop (P := C.P) hl (by simp [rec']), ?_⟩
      rw [hxl] at hi hinv
      exact hdone hinv _ _ (fin hi hl hd)
    · refine ⟨some .ret, _, run_endLoop (P := C.P) hl (by simp [rec']), ?_⟩
      exact wpIn_ret (hstop _ _ _ hk (fin hi hl hd))
theorem same_walk {β : Nat → Option Nat} {N : Nat → Prop} {H : HF} {w w' : World} (hR : HeapRel F β N H w) {D : Nat} {o o' : Obj} (ho : w.heap[D]? = some o) (h1 : o.isCells = false) (h2 : o'.isCells = false) (h3 : objMap o = false) (hD : F.base ≤ D) (hw : w' = w.putObj D o') :
    HeapRel F β N H w' ∧ ∀ {v : Value} {d : DV}, RepDV F β N H w v d → RepDV F β N H w' v d := by
  subst hw
  have hlt := blk_lt ho
  have hat : (w.putObj D o').heap[D]? = some o' := World.putObj_heap_same hlt
  have hne : ∀ {b : Nat}, b ≠ D → (w.putObj D o').heap[b]? = w.heap[b]? := fun h => World.putObj_heap_other h
  have hc : ∀ {b : Nat} {arr : Array Value} {T : TypeId}, w.heap[b]? = some (.cells arr T) → (w.putObj D o').heap[b]? = some (.cells arr T) := fun {b arr T} e => by
    rw [hne (fun h => by subst h; rw [ho] at e; cases e; cases h1)]; exact e
  have hrd : rd (w.putObj D o') = rd w := by
    funext b x
    by_cases h : b = D
    · subst h
      unfold rd World.cell?
      simp only [hat, ho]
      cases o <;> simp [Obj.isCells] at h1 <;> cases o' <;> simp [Obj.isCells] at h2 <;> rfl
    · exact World.cell?_of_block (w := w) (a := ⟨b, x, none⟩) (hne h)
  have hMV : MV F β H (w.putObj D o') = MV F β H w := by unfold MV; rw [hrd]
  have hMR : MR F β H (w.putObj D o') = MR F β H w := by unfold MR; rw [hMV]
  have hD' : ∀ {v : Value} {d : DC}, RepD F β N H w v d → RepD F β N H (w.putObj D o') v d := by
    intro v d h
    cases d with
    | st c => have h : Rep _ _ v c := h; show Rep _ _ v c; rw [hMV, hMR]; exact h
    | nil => exact h
    | clo g id => exact h
    | mp id => exact h
    | ptr id off => exact h
    | own id =>
      obtain ⟨q1, q2, q3⟩ := h
      refine ⟨q1, q2, fun m z c e hz => ?_⟩
      rcases q3 m z c e hz with h | ⟨b, cap, arr, T, p1, p2, p3, p4⟩
      · exact .inl h
      · exact .inr ⟨b, cap, arr, T, p1, p2, hc p3, p4⟩
    | rptr id z i off => exact h
  have hX : ∀ {v : Value} {x : DX}, RepDX F β N H w v x → RepDX F β N H (w.putObj D o') v x := by
    intro v x h
    unfold RepDX at h ⊢
    split
    · rename_i hx
      rw [if_pos hx] at h
      obtain ⟨arr, q1, q2, q3⟩ := h
      exact ⟨arr, q1, q2, fun k c hk => hD' (q3 k c hk)⟩
    · rename_i hx
      rw [if_neg hx] at h
      obtain ⟨c, q1, q2⟩ := h
      exact ⟨c, q1, hD' q2⟩
  refine ⟨⟨fun id blk e => ⟨(hR.rel id blk e).1, ?_⟩, hR.inj, hR.below.trans ⟨rfl, rfl, rfl, by simp, fun k hk hm => hne (fun h => hm (.inl (by omega)))⟩, fun b x v e => by rw [hrd]; exact hR.mem0 b x v e⟩, ?_⟩
  · obtain ⟨_, hB⟩ := hR.rel id blk e
    cases blk with
    | box t cs => obtain ⟨b, arr, T, q1, q2, q3, q4, q5⟩ := hB; exact ⟨b, arr, T, q1, q2, hc q3, q4, fun k x hx => hD' (q5 k x hx)⟩
    | fbox cs => obtain ⟨b, arr, T, q1, q2, q3, q4, q5⟩ := hB; exact ⟨b, arr, T, q1, q2, hc q3, q4, fun k x hx => by rw [hMV, hMR]; exact q5 k x hx⟩
    | row m z c =>
      obtain ⟨q0, q1 | ⟨b, cap, q1, q2, arr, T, q3, q4⟩⟩ := hB
      · exact ⟨q0, .inl q1⟩
      · exact ⟨q0, .inr ⟨b, cap, q1, q2, arr, T, hc q3, by rw [hMV]; exact q4⟩⟩
    | rowD z l =>
      obtain ⟨q0, q1 | ⟨b, cap, arr, T, q1, q2, q3, q4, q5, q6⟩⟩ := hB
      · exact ⟨q0, .inl q1⟩
      · exact ⟨q0, .inr ⟨b, cap, arr, T, q1, q2, hc q3, q4, q5, fun i e k x hi hx => hD' (q6 i e k x hi hx)⟩⟩
    | map es =>
      obtain ⟨b, arr, ck, q1, q2, q3, q4, q5⟩ := hB
      exact ⟨b, arr, ck, q1, q2, by rw [hne (fun h => by subst h; rw [ho] at q3; cases q3; cases h3)]; exact q3, q4, by rw [hMV, hMR]; exact q5⟩
  · intro v d h
    cases d with
    | val x => exact hX h
    | tup l => obtain ⟨arr, q1, q2, q3⟩ := h; exact ⟨arr, q1, q2, fun k x hk => hX (q3 k x hk)⟩
theorem leaves_ok {P : Program} {fn : Func} {R : Ending → World → Prop} {S : St} {t : Array Value} {β : Nat → Option Nat} {N : Nat → Prop}
    (hdb : F.base ≤ F.db) (hfin : ∀ w, RelB F nt S t w β N → ∃ v, (results fn t).run P w = .ok v w ∧ R (.returned v) w) : ∀ (ds : List Deferred) (w : World), RelB F nt S t w β N → DefersOk F.db ds w → LeavesInM Fence.wide 0 P fn t R ds .returning w
  | [], w, hr, _ => by
    obtain ⟨v, h1, h2⟩ := hfin w hr
    exact ⟨v, h1, h2⟩
  | d :: ds, w, hr, hd => by
    obtain ⟨D, rfl, hD, hb⟩ := hd.all d List.mem_cons_self
    obtain ⟨h1, h2⟩ := same_walk (o' := .deferred none) hr.heap hD rfl rfl rfl (Nat.le_trans hdb hb) rfl
    refine ⟨by simp, .inl ⟨_, _, rfl, run_takeDeferred hD, ?_⟩⟩
    refine leaves_ok hdb hfin ds _ ⟨hr.size, fun s dv e => h2 (hr.env s dv e), h1, hr.ids⟩ ⟨fun d hd' => ?_, (List.nodup_cons.1 hd.nodup).2⟩
    obtain ⟨D', e1, e2, e3⟩ := hd.all d (List.mem_cons_of_mem _ hd')
    refine ⟨D', e1, ?_, e3⟩
    rw [World.putObj_heap_other (fun h => ?_)]
    · exact e2
    · subst h; subst e1
      exact (List.nodup_cons.1 hd.nodup).1 hd'
theorem awp_sound (hC : C.Ok) (hG : Globs C F) (hdb : F.db ≤ F.base) {c : Code} : codeFree (F.fixed.map Prod.fst) c = true → ∀ {S : St} {kn : St → Prop} {kx : Nat → St → Prop} {kr : St → Prop} {a : Act} {w : World} {Q : Exit → Act → World → Prop}, codeOk nt c = true → awp C c S kn kx kr → Rel F nt S a w →
    (∀ S a w, kn S → Rel F nt S a w → Q .normal a w) → (∀ id S a w, kx id S → Rel F nt S a w → Q (.exit id) a w) → (∀ S a w, kr S → Rel F nt S a w → Q .ret a w) → c.wp C.P Q a w := by
  induction c with
  | skip => intro _ S kn kx kr a w Q _ h hr h1 h2 h3; exact wp_skip (h1 _ _ _ h hr)
  | label l => intro _ S kn kx kr a w Q _ h hr h1 h2 h3; exact wp_label (h1 _ _ _ h hr)
  | ret => intro _ S kn kx kr a w Q _ h hr h1 h2 h3; exact wp_ret (h3 _ _ _ h hr)
  | exit id => intro _ S kn kx kr a w Q _ h hr h1 h2 h3; exact wp_exit (h2 _ _ _ _ h hr)
  | seq x y ihx ihy =>
    intro hfr S kn kx kr a w Q hc h hr h1 h2 h3
    obtain ⟨hx, hy⟩ := ble_and (a := codeOk nt x) (b := codeOk nt y) hc
    obtain ⟨fx, fy⟩ := ble_and (a := codeFree (F.fixed.map Prod.fst) x) (b := codeFree (F.fixed.map Prod.fst) y) hfr
    refine wp_seq (ihx fx hx h hr (fun S a w ⟨S', hs, h⟩ hr => ihy fy hy h (hs _ _ _ _ hr) h1 h2 h3) h2 h3)
  | cond c x y ihx ihy =>
    intro hfr S kn kx kr a w Q hc h hr h1 h2 h3
    obtain ⟨hx, hy⟩ := ble_and (a := codeOk nt x) (b := codeOk nt y) hc
    obtain ⟨fx, fy⟩ := ble_and (a := codeFree (F.fixed.map Prod.fst) x) (b := codeFree (F.fixed.map Prod.fst) y) hfr
    unfold awp at h
    split at h
    · rename_i b hb
      have hv : a.eval c = .bool b := by
        obtain ⟨N, ⟨_, _, _, β, hE, hR⟩, _⟩ := hr
        have := ev_ok hG hR hE hb
        exact (RepDX.one_inv this).lit_inv.1
      refine wp_cond hv ?_
      cases b
      · exact ihy fy hy (brn_false' h) hr h1 h2 h3
      · exact ihx fx hx (brn_true' h) hr h1 h2 h3
    · exact h.elim
  | block id c ih =>
    intro hfr S kn kx kr a w Q hc h hr h1 h2 h3
    refine wp_block (ih hfr hc h hr (fun S a w h hr => h1 S a w h hr) (fun id' S a w h hr => ?_) fun S a w h hr => h3 S a w h hr)
    show if id' = id then Q .normal a w else Q (.exit id') a w
    split at h
    · rename_i e
      rw [if_pos (Nat.eq_of_beq_eq_true e)]; exact h1 _ _ _ h hr
    · rename_i e
      rw [if_neg (fun e' => by subst e'; rw [Nat.beq_refl] at e; cases e)]; exact h2 _ _ _ _ h hr
  | loop c ih =>
    intro hfr S kn kx kr a w Q hc h hr h1 h2 h3
    refine loopIn.wp ?_
    obtain ⟨S0, hs0, h'⟩ := h
    have hr := hs0 _ _ _ _ hr
    unfold LFP at h'
    refine h' (fun S => ∀ a w, Rel F nt S a w → loopIn C.P c Q a w) (fun S hS a w hr => ?_) a w hr
    refine loopIn.round (ih hfr hc hS hr (fun S' a w h hr => ?_) (fun id S a w h hr => h2 id S a w h hr) fun S a w h hr => h3 S a w h hr)
    obtain ⟨S'', hsub, hz⟩ := h
    exact hz a w (hsub _ _ _ _ hr)
  | region id ops draw =>
    intro hfr S kn kx kr a w Q hc h hr h1 h2 h3
    exact region_sound hC hG (okD_of hc hfr) h hr h1
  | scope c ih =>
    intro hfr S kn kx kr a w Q hc h hr h1 h2 h3
    exact wp_scope_straight (ih hfr hc h hr (fun S a w h hr => h1 S a w h hr) (fun id S a w h hr => h2 id S a w h hr) fun S a w h hr => h3 S a w h hr)
  | rangeFunc g ps x y =>
    intro hfr S kn kx kr a w Q hc h hr h1 h2 h3
    unfold awp at h
    split at h
    · rename_i gf first caps hg
      obtain ⟨xs, Hs, nx, Inv, q1, q2, q3, qm, q4, q0, q5, q6⟩ := h
      exact range_sound hC hG hc hg q1 q2 q3 qm (q4 _ _ _ _ hr) hdb q0 q5 (fun hi a' w' hr' => h1 _ a' w' (q6 hi) hr') fun S a' w' hk hr' => h3 S a' w' hk hr'
    · exact h.elim
  | goto => intro _ S kn kx kr a w Q _ h; exact h.elim
  | refuse => intro _ S kn kx kr a w Q _ h; exact h.elim
end
structure Awp (C : Ctx) (c : Code) (S : St) (kn : St → Prop) (kx : Nat → St → Prop) (kr : St → Prop) : Prop where
  out : awp C c S kn kx kr
structure Brn (b : Bool) (X Y : Prop) : Prop where
  out : brn b X Y
theorem br_intro {b : Bool} {X Y : Prop} (h : b = true → X) (h' : b = false → Y) : Brn b X Y := ⟨brn_intro h h'⟩
theorem bT {X Y : Prop} (h : X) : Brn true X Y := ⟨brn_true h⟩
theorem bF {X Y : Prop} (h : Y) : Brn false X Y := ⟨brn_false h⟩
def regionW (C : Ctx) (ops : List Oper) (draw : Bool) (S : St) (kn : St → Prop) : Prop := match S with
  | ⟨E, H, nx⟩ => OpsA C ops nx ops 0 E H [] fun E H n t => match draw with
    | false => kn ⟨E, H, nx + n⟩
    | true => drawOk ops t = true ∧ kn ⟨E, H, nx + n⟩
structure LoopA (C : Ctx) (c : Code) (S : St) (kx : Nat → St → Prop) (kr : St → Prop) : Prop where
  out : ∃ S', Sub S S' ∧ LFP (fun Z S => awp C c S Z kx kr) S'
section
variable {C : Ctx} {S : St} {kn : St → Prop} {kx : Nat → St → Prop} {kr : St → Prop}
theorem aK (h : kn S) : Awp C .skip S kn kx kr := ⟨h⟩
theorem aT (h : kr S) : Awp C .ret S kn kx kr := ⟨h⟩
theorem aX {id : Nat} (h : kx id S) : Awp C (.exit id) S kn kx kr := ⟨h⟩
theorem aS {x y : Code} (h : Awp C x S (fun S => Awp C y S kn kx kr) kx kr) : Awp C (.seq x y) S kn kx kr := by
  have h' : awp C x S (fun S => ∃ S', Sub S S' ∧ awp C y S' kn kx kr) kx kr := awp_mono h.out (fun S h => ⟨S, Sub.refl S, h.out⟩) (fun _ _ h => h) fun _ h => h
  exact ⟨h'⟩
theorem aC {c : Operand} {x y : Code} {b : Bool} (hc : C.ev S.env.get c = some (.val (false, [.st (.lit (.bool b))]))) (h : Brn b (Awp C x S kn kx kr) (Awp C y S kn kx kr)) : Awp C (.cond c x y) S kn kx kr := by
  refine ⟨?_⟩
  unfold awp; simp only [hc]; exact brn_mono h.out (fun h => h.out) fun h => h.out
theorem aB {id : Nat} {c : Code} (h : Awp C c S kn (fun id' S => match Nat.beq id' id with
    | true => kn S
    | false => kx id' S) kr) : Awp C (.block id c) S kn kx kr := ⟨h.out⟩
theorem aL {c : Code} (h : LoopA C c S kx kr) : Awp C (.loop c) S kn kx kr := ⟨h.out⟩
theorem aE {c : Code} (h : Awp C c S kn kx kr) : Awp C (.scope c) S kn kx kr := ⟨h.out⟩
theorem aR {id : Nat} {ops : Array Oper} {draw : Bool} (h : regionW C ops.toList draw S kn) : Awp C (.region id ops draw) S kn kx kr := by
  obtain ⟨E, H, nx⟩ := S
  exact ⟨h.out⟩
end
end Go.Fw
namespace Go.Fw
open Go.RowKit (Below)
def entryEnv : Nat → List SV → Env
  | _, [] => []
  | i, x :: xs => (i, some (.val (dyn x))) :: entryEnv (i + 1) xs
def entry (args : List SV) : St := ⟨entryEnv 0 args, [], 0⟩
def resVars (C : Ctx) (H : HF) (E : EF) : List ResultVar → (List DX → Prop) → Prop
  | [], K => K []
  | .tmp t :: rs, K => match E t with
    | some (.val x) => resVars C H E rs fun xs => K (x :: xs)
    | _ => False
  | .cell a t :: rs, K => match E a with
    | some (.val x) => loadA C t x H fun r u _ => match r, u with
      | .val y, [] => resVars C H E rs fun xs => K (y :: xs)
      | _, _ => False
    | _ => False
def ownOf (H : HF) : List DX → Option (Nat × SC)
  | [(false, [.own id])] => match H id with
    | some (.row true z c) => some (z, c)
    | _ => none
  | _ => none
def allFlat : List SV → Bool
  | [] => true
  | x :: l => flats x.2 && allFlat l
def weakC : SC → SC
  | .ref _ => .ref []
  | c => c
def weakOk : SC → Bool
  | .fn _ _ _ => false
  | _ => true
def weakX (x : SV) : SV := (x.1, x.2.map weakC)
def allWeak : List SV → Bool
  | [] => true
  | x :: l => x.2.all weakOk && allWeak l
def retX (C : Ctx) (H : HF) (ts : List TypeId) (xs : List DX) (K : Res → Prop) : Prop := match ownOf H xs with
  | some (z, c) => K (.own z c)
  | none => match statA C H ts xs with
    | some (l, _, _) => match allFlat l with
      | true => match l with
        | [y] => K (.one y)
        | l => K (.tup l)
      | false => match allWeak l with
        | true => match l with
          | [y] => K (.one (weakX y))
          | l => K (.tup (l.map weakX))
        | false => False
    | none => False
def retA (C : Ctx) (fn : Func) (S : St) (K : Res → Prop) : Prop := resVars C S.hp.get S.env.get fn.results.toList fun xs => retX C S.hp.get fn.resultTypes.toList xs K
theorem entryEnv_get {xs : List SV} : ∀ {i s : Nat} {dv : DV}, (entryEnv i xs).get s = some dv → ∃ k x, s = i + k ∧ xs[k]? = some x ∧ dv = .val (dyn x) := by
  induction xs with
  | nil => intro i s dv h; simp [entryEnv, Env.get] at h
  | cons x xs ih =>
    intro i s dv h
    unfold entryEnv at h
    rw [Env.get_cons] at h
    simp only at h
    by_cases e : s = i
    · subst e; simp at h; exact ⟨0, x, rfl, rfl, h.symm⟩
    · rw [if_neg e] at h
      obtain ⟨k, y, h1, h2, h3⟩ := ih h
      exact ⟨k + 1, y, by omega, by simpa using h2, h3⟩
section
variable {C : Ctx} {F : Fix} {β : Nat → Option Nat} {N : Nat → Prop} {H : HF} {w w' : World} {fn : Func}
def resGet (tmps : Array Value) : ResultVar → Sem Value
  | .tmp t => pure (tmps.getD t undef)
  | .cell a t => do loadVar t (← asAddr (tmps.getD a undef))
theorem results_eq (tmps : Array Value) : results fn tmps = (do let vs ← fn.results.mapM (resGet tmps); pure (if h : vs.size = 1 then vs[0] else .tuple vs)) := by
  unfold results
  congr 1
def packV : List Value → Value
  | [v] => v
  | vs => .tuple vs.toArray
theorem results_run {P : Program} {tmps : Array Value} {vs : List Value} (h : (fn.results.toList.mapM (resGet tmps)).run P w = .ok vs w) :
    (results fn tmps).run P w = .ok (packV vs) w := by
  rw [results_eq, Array.mapM_eq_mapM_toList]
  simp only [map_eq_pure_bind, Sem.run_bind, h, Result.andThen_ok, Sem.run_pure]
  congr 1
  match vs with
  | [] => rfl
  | [v] => rfl
  | v :: u :: vs => simp; rfl
theorem asAddr_ok {P : Program} {T : TypeId} {x : DX} {v0 v : Value} {K : OpK} {w' : World} (hx : RepDX F β N H w v0 x) (h : loadA C T x H K) (hr : (Instr.loadAt T v0).run P w = .ok v w') :
    (do loadVar T (← asAddr v0) : Sem Value).run P w = .ok v w' := by
  have key : ∃ b o, v0 = .pointer (some ⟨b, o, none⟩) := by
    unfold loadA at h
    split at h
    · exact h.elim
    · split at h
      · obtain ⟨_, b, _, e⟩ := hx.one_inv; exact ⟨_, _, e⟩
      · exact ref_ptr hx.one_inv
      · obtain ⟨_, b, _, e⟩ := hx.one_inv; exact ⟨_, _, e⟩
      · exact h.elim
  obtain ⟨b, o, rfl⟩ := key
  simpa only [Instr.loadAt, Instr.sureAddr, asAddr, Sem.run_bind, Sem.run_pure, Result.andThen_ok] using hr
theorem resVars_ok (hC : C.Ok) (hG : Globs C F) {E : EF} {a : Act} : ∀ {rs : List ResultVar} {K : List DX → Prop} {β : Nat → Option Nat} {N : Nat → Prop}, HeapRel F β N H w → EnvRel F β N H w E a → resVars C H E rs K →
    ∃ xs vs β' N', K xs ∧ Tr F β N H w β' N' H w ∧ HeapRel F β' N' H w ∧ (rs.mapM (resGet a.tmps)).run C.P w = .ok vs w ∧ vs.length = xs.length ∧ ∀ k x, xs[k]? = some x → RepDX F β' N' H w (vs.getD k undef) x := by
  intro rs
  induction rs with
  | nil => intro K β N hR hE h; exact ⟨[], [], β, N, h, Tr.refl, hR, by simp, rfl, by simp⟩
  | cons r rs ih =>
    intro K β N hR hE h
    cases r with
    | tmp t =>
      unfold resVars at h
      split at h
      · rename_i x hx
        obtain ⟨xs, vs, β', N', h1, ht, hR', h2, h3, h4⟩ := ih hR hE h
        refine ⟨x :: xs, a.tmps.getD t undef :: vs, β', N', h1, ht, hR', ?_, by simp [h3], fun k y hk => ?_⟩
        · simp only [List.mapM_cons, Sem.run_bind, resGet, Sem.run_pure, Result.andThen_ok, h2]
        · cases k with
          | zero => simp at hk; subst hk; exact ht.repDX hR (hE t _ hx)
          | succ k => simpa using h4 k y (by simpa using hk)
      · exact h.elim
    | cell s t =>
      unfold resVars at h
      split at h
      · rename_i x hx
        obtain ⟨v, hrun, β1, r, u, R, hK, ht, hR1, hv⟩ := load_ok (fid := 0) hC hG hR (hE s _ hx) h
        have hrun' := asAddr_ok (hE s _ hx) h hrun
        split at hK
        · rename_i y
          obtain ⟨xs, vs, β', N', h1, ht', hR', h2, h3, h4⟩ := ih hR1 (ht.env hR hE) hK
          refine ⟨y :: xs, v :: vs, β', N', h1, ht.trans ht', hR', ?_, by simp [h3], fun k y' hk => ?_⟩
          · simp only [List.mapM_cons, Sem.run_bind, resGet] at hrun' ⊢
            rw [hrun']
            simp only [Result.andThen_ok, h2, Sem.run_pure]
          · cases k with
            | zero => simp at hk; subst hk; exact ht'.repDX hR1 hv
            | succ k => simpa using h4 k y' (by simpa using hk)
        · exact hK.elim
      · exact h.elim
def Fix.pure (F : Fix) : Prop := ∀ b, ¬ F.own b
theorem Fix.pure.base {F : Fix} (h : F.pure) {b : Nat} (hb : F.mine b) : F.base ≤ b := hb.elim id fun e => absurd e (h b)
theorem after_mv (hp0 : F.pure) : (MV F β H w).le (mvAfter F.mv0 F.base w) := by
  intro b o v h
  unfold MV at h
  unfold mvAfter
  split at h
  · rename_i hb
    rw [if_pos (hp0.base hb)]
    split at h
    · exact h
    · cases h
  · rename_i hb; rw [if_neg (fun e => hb (.inl e))]; exact h
theorem RepB.flat {mv mr mv' mr' : Mem} (hmv : mv.le mv') {v : Value} {x : SV} (h : RepB mv mr v x) (hf : flats x.2 = true) : RepB mv' mr' v x := by
  unfold RepB at *
  split
  · rename_i hx
    rw [if_pos hx] at h
    obtain ⟨arr, h1, h2, h3⟩ := h
    exact ⟨arr, h1, h2, fun k c hc => ((h3 k c hc).mono hmv (Mem.le_refl _)).flat (flats_get hf k c hc)⟩
  · rename_i hx
    rw [if_neg hx] at h
    obtain ⟨c, h1, h2⟩ := h
    exact ⟨c, h1, (h2.mono hmv (Mem.le_refl _)).flat (flats_get hf 0 c (by rw [h1]; rfl))⟩
theorem allFlat_get {l : List SV} (h : allFlat l = true) : ∀ (k : Nat) (x : SV), l[k]? = some x → flats x.2 = true := by
  induction l with
  | nil => simp
  | cons y l ih =>
    rw [allFlat] at h
    obtain ⟨h1, h2⟩ := ble_and h
    intro k x hk
    cases k with
    | zero => simp at hk; subst hk; exact h1
    | succ k => exact ih h2 k x (by simpa using hk)
theorem Rep.weak {mv mr mv' mr' : Mem} (hmv : mv.le mv') {v : Value} {c : SC} (h : Rep mv mr v c) (hf : weakOk c = true) : Rep mv' mr' v (weakC c) := by
  cases c with
  | ref cs =>
    cases h with
    | empty _ _ hv => simp [SC.isView] at hv
    | view _ _ _ _ _ hv => simp [SC.isView] at hv
    | ref b o f hc hr => exact .ref b o f (by simp) (by simp)
  | fn f a b => cases hf
  | _ => exact (h.mono hmv (Mem.le_refl _)).flat rfl
theorem RepB.weak {mv mr mv' mr' : Mem} (hmv : mv.le mv') {v : Value} {x : SV} (h : RepB mv mr v x) (hf : x.2.all weakOk = true) : RepB mv' mr' v (weakX x) := by
  have hall : ∀ c ∈ x.2, weakOk c = true := List.all_eq_true.1 hf
  unfold RepB at *
  split
  · rename_i hx
    rw [if_pos (show x.1 = true from hx)] at h
    obtain ⟨arr, h1, h2, h3⟩ := h
    refine ⟨arr, h1, by simp [weakX, h2], fun k c hc => ?_⟩
    simp only [weakX, List.getElem?_map, Option.map_eq_some_iff] at hc
    obtain ⟨c0, hc0, rfl⟩ := hc
    exact Rep.weak hmv (h3 k c0 hc0) (hall c0 (List.mem_of_getElem? hc0))
  · rename_i hx
    rw [if_neg (show ¬ x.1 = true from hx)] at h
    obtain ⟨c, h1, h2⟩ := h
    exact ⟨weakC c, by simp [weakX, h1], Rep.weak hmv h2 (hall c (by rw [h1]; exact List.mem_cons_self))⟩
theorem allWeak_get {l : List SV} (h : allWeak l = true) : ∀ (k : Nat) (x : SV), l[k]? = some x → x.2.all weakOk = true := by
  induction l with
  | nil => simp
  | cons y l ih =>
    rw [allWeak] at h
    obtain ⟨h1, h2⟩ := ble_and h
    intro k x hk
    cases k with
    | zero => simp at hk; subst hk; exact h1
    | succ k => exact ih h2 k x (by simpa using hk)
theorem retX_ok (hp0 : F.pure) (hG : Globs C F) (hR : HeapRel F β N H w) {ts : List TypeId} {xs : List DX} {vs : List Value} {K : Res → Prop} (hl : vs.length = xs.length) (hv : ∀ k x, xs[k]? = some x → RepDX F β N H w (vs.getD k undef) x)
    (h : retX C H ts xs K) : ∃ r, K r ∧ RepRes F.mv0 F.base w (packV vs) r := by
  unfold retX at h
  split at h
  · rename_i z c ho
    refine ⟨_, h, ?_⟩
    unfold ownOf at ho
    split at ho
    · rename_i id
      split at ho
      · rename_i z' c' hb
        simp only [Option.some.injEq, Prod.mk.injEq] at ho
        obtain ⟨rfl, rfl⟩ := ho
        match vs, hl with
        | [v], _ =>
          have h0 := (hv 0 _ rfl).one_inv
          obtain ⟨hn, _, hown⟩ := h0
          have hown := hown _ _ _ hb rfl
          obtain ⟨_, ⟨hz, hvw, hel⟩, hrow⟩ := hR.rel id _ hb
          rcases hown with ⟨h1, h2, h3⟩ | ⟨b, cap, arr, T, h1, h2, h3, h4⟩
          · exact .inl ⟨h3, h2, hvw, hz, hel⟩
          · rcases hrow with hrow | ⟨b', cap', q1, q2, q3⟩
            · rw [hrow.1] at h1; cases h1
            · rw [h1] at q1; cases q1
              obtain ⟨arr', T', e1, e2, e3, e4, e5, e6, e7⟩ := q3
              rw [h3] at e1; cases e1
              have hcap : cap' = cap := by
                rw [h4] at e2
                exact (Nat.eq_of_mul_eq_mul_right e3 e2).symm
              subst hcap
              refine .inr ⟨b, cap', h2, hp0.base q2, arr, T, h3, e2, e3, e4, e5, e6, fun i e j x he hx => (e7 i e j x he hx).mono ?_ (Mem.le_refl _)⟩
              intro b2 o v' hmv
              unfold Mem.but
              split
              · rename_i hb2
                subst hb2
                exfalso
                unfold MV at hmv
                rw [if_pos q2] at hmv
                split at hmv
                · rename_i hs
                  have := hs id _ hb h1
                  simp [Blk.stab] at this
                · cases hmv
              · exact after_mv hp0 b2 o v' hmv
      · cases ho
    · cases ho
  · split at h
    · rename_i l u rr hst
      obtain ⟨q1, q2, q3⟩ := statA_ok hst
      have hg : Give C H u := Give.of_freeze q1
      have hrep : ∀ k x, l[k]? = some x → RepB (MV F β (u.on H) w) (rd w) (vs.getD k undef) x := by
        rintro k ⟨g, cs⟩ hk
        obtain ⟨x, ks, ue, re, a1, a2, a3, a4⟩ := q3 k g cs hk
        rw [← a2]
        exact statX_rep hG hR hg (hv k x a1) a3 a4
      split at h
      · rename_i hf
        have hrep' : ∀ k x, l[k]? = some x → RepB (mvAfter F.mv0 F.base w) nomem (vs.getD k undef) x := fun k x hk =>
          (hrep k x hk).flat (after_mv hp0) (allFlat_get hf k x hk)
        split at h
        · rename_i y
          match vs, hl, q2 with
          | [v], _, _ => exact ⟨_, h, hrep' 0 y rfl⟩
          | [], hl, q2 => simp at q2 hl; rw [← q2] at hl; simp at hl
          | _ :: _ :: _, hl, q2 => simp at q2 hl; omega
        · rename_i hne
          refine ⟨_, h, ?_⟩
          have hvs : packV vs = .tuple vs.toArray := by
            match vs, hl with
            | [], _ => rfl
            | [v], hl =>
              exfalso
              have : l.length = 1 := by rw [q2, ← hl]; rfl
              obtain ⟨y, rfl⟩ := List.length_eq_one_iff.1 this
              exact hne y rfl
            | _ :: _ :: _, _ => rfl
          rw [hvs]
          exact ⟨vs.toArray, rfl, by simp [hl, q2], fun k x hk => by simpa using hrep' k x hk⟩
      · split at h
        · rename_i hf
          have hrep' : ∀ k x, l[k]? = some x → RepB (mvAfter F.mv0 F.base w) nomem (vs.getD k undef) (weakX x) := fun k x hk =>
            (hrep k x hk).weak (after_mv hp0) (allWeak_get hf k x hk)
          split at h
          · rename_i y _
            match vs, hl, q2 with
            | [v], _, _ => exact ⟨_, h, hrep' 0 y rfl⟩
            | [], hl, q2 => simp at q2 hl; rw [← q2] at hl; simp at hl
            | _ :: _ :: _, hl, q2 => simp at q2 hl; omega
          · rename_i hne
            refine ⟨_, h, ?_⟩
            have hvs : packV vs = .tuple vs.toArray := by
              match vs, hl with
              | [], _ => rfl
              | [v], hl =>
                exfalso
                have : l.length = 1 := by rw [q2, ← hl]; rfl
                obtain ⟨y, rfl⟩ := List.length_eq_one_iff.1 this
                exact hne y rfl
              | _ :: _ :: _, _ => rfl
            rw [hvs]
            refine ⟨vs.toArray, rfl, by simp [hl, q2], fun k x hk => ?_⟩
            rw [List.getElem?_map, Option.map_eq_some_iff] at hk
            obtain ⟨x0, hx0, rfl⟩ := hk
            simpa using hrep' k x0 hx0
        · exact h.elim
    · exact h.elim
theorem Sat_of_ret (hC : C.Ok) {f : FuncId} {c : Code} {args : List SV} {r : Res} {ret : St → Prop} (hn : fnOk C.P f = true) (hf : C.P.funcs[f]? = some fn) (hb : fn.body = some c) (hcode : codeOk fn.ntmps c = true) (hargs : args.length ≤ fn.ntmps)
    (hret : ∀ S, ret S → ∃ RX : HF → List DX → (Res → Prop) → Prop, (∀ {F : Fix} {β : Nat → Option Nat} {N : Nat → Prop} {w : World} {xs : List DX} {vs : List Value} {K : Res → Prop}, F.pure → Globs C F → HeapRel F β N S.hp.get w → vs.length = xs.length → (∀ k x, xs[k]? = some x → RepDX F β N S.hp.get w (vs.getD k undef) x) → RX S.hp.get xs K → ∃ r, K r ∧ RepRes F.mv0 F.base w (packV vs) r) ∧
      resVars C S.hp.get S.env.get fn.results.toList fun xs => RX S.hp.get xs fun r' => r' = r)
    (h : Awp C c (entry args) ret (fun _ _ => False) ret) : Sat C.P C.gl f args r := by
  refine .inl ⟨hn, fun mv w vs hmv hgl hvs => ?_⟩
  let F : Fix := ⟨w, mv, fun _ => False, [], w.heap.size, rd w⟩
  have hp0 : F.pure := fun _ h => h
  have hG : Globs C F := ⟨hgl, hmv, fun _ _ _ _ h => h, hgl, Mem.le_refl _, hmv⟩
  have hsize : vs.size = args.length := hvs.1
  refine (callsIn_wide (n := 0)).1 (callsIn_of_wp_marks hf hb trivial ?_ rfl)
  have hR : HeapRel F (fun _ => none) (fun _ => False) (Hp.get []) w := ⟨fun id blk e => by simp [Hp.get] at e, fun i j b x y e => by simp [Hp.get] at e, Keep.refl _ _, fun b o v e => ⟨hmv b o v e, fun _ id blk e' => by simp [Hp.get] at e'⟩⟩
  have hmem : ∀ b o v, mv b o = some v → b < F.base := fun b o v h => World.block_lt_of_cell? _ _ (hmv b o v h)
  have hE : EnvRel F (fun _ => none) (fun _ => False) (Hp.get []) w (entry args).env.get { tmps := vs ++ Array.replicate (fn.ntmps - vs.size) undef, defers := [] } := by
    intro s dv hs
    obtain ⟨k, x, h1, h2, rfl⟩ := entryEnv_get hs
    rw [Nat.zero_add] at h1
    subst h1
    have hlt : s < args.length := (List.getElem?_eq_some_iff.1 h2).1
    have hget : (vs ++ Array.replicate (fn.ntmps - vs.size) undef).getD s undef = vs.getD s undef := by
      simp [Array.getD_eq_getD_getElem?, Array.getElem?_append, hsize, hlt]
    show RepDX _ _ _ _ _ ((vs ++ Array.replicate (fn.ntmps - vs.size) undef).getD s undef) (dyn x)
    rw [hget]
    refine RepB.dyn ((hvs.2 s x h2).mono (fun b o v h => ?_) fun b o v h => ?_)
    · unfold MV; rw [if_neg (fun e => absurd (hp0.base e) (Nat.not_le.2 (hmem b o v h)))]; exact h
    · unfold MR; rw [if_neg (fun e => absurd (hp0.base e) (Nat.not_le.2 (show b < F.base from World.block_lt_of_cell? _ _ h)))]; exact h
  have hrel : Rel F fn.ntmps (entry args) { tmps := vs ++ Array.replicate (fn.ntmps - vs.size) undef, defers := [] } w :=
    ⟨fun _ => False, ⟨by simp; omega, DefersOk.nil _ _, fun _ h => (by cases h), _, hE, hR⟩, fun _ h => h.elim⟩
  have hend : ∀ S a w', ret S → Rel F fn.ntmps S a w' → LeavesInM Fence.wide 0 C.P fn a.tmps (fun e w' => ∃ v', e = .returned v' ∧ Below w.heap.size w w' ∧ RepRes mv w.heap.size w' v' r) a.defers .returning w' := by
    rintro S a w' hr ⟨N, ⟨hs, hd, _, β, hE, hR⟩, hN⟩
    obtain ⟨RX, hok, hr⟩ := hret S hr
    refine leaves_ok (F := F) (S := S) (β := β) (N := N) (Nat.le_refl _) (fun w' hB => ?_) a.defers w' ⟨hs, hE, hR, hN⟩ hd
    obtain ⟨xs, ws, β', N', h1, ht, hR', h2, h3, h4⟩ := resVars_ok (a := { tmps := a.tmps, defers := [] }) hC hG hB.heap hB.env hr
    obtain ⟨r', rfl, hrep⟩ := hok hp0 hG hR' h3 h4 h1
    exact ⟨_, results_run h2, _, rfl, hR'.below.below (fun b hb e => absurd (hp0.base e) (Nat.not_le.2 hb)), hrep⟩
  refine (wpIn_wide (n := 0)).2 (awp_sound (F := F) hC hG (Nat.le_refl _) (codeFree_nil c) hcode h.out hrel (fun S a w' hret hr => ?_) (fun _ _ _ _ h => h.elim) fun S a w' hret hr => ?_)
  · exact hend S a w' hret hr
  · exact hend S a w' hret hr
theorem Sat_of_awp (hC : C.Ok) {f : FuncId} {c : Code} {args : List SV} {r : Res} (hn : fnOk C.P f = true) (hf : C.P.funcs[f]? = some fn) (hb : fn.body = some c) (hcode : codeOk fn.ntmps c = true) (hargs : args.length ≤ fn.ntmps)
    (h : Awp C c (entry args) (fun S => retA C fn S fun r' => r' = r) (fun _ _ => False) (fun S => retA C fn S fun r' => r' = r)) : Sat C.P C.gl f args r := by
  exact Sat_of_ret hC hn hf hb hcode hargs (fun S hS => ⟨fun H xs K => retX C H fn.resultTypes.toList xs K, fun hp0 hG hR hl hv h => retX_ok hp0 hG hR hl hv h, hS⟩) h
end
end Go.Fw
namespace Go.Fw
open Go.RowKit (Below)
def renId : List (Nat × Nat) → Nat → Option Nat
  | [], _ => none
  | (o, n) :: m, id => match Nat.beq id o with
    | true => some n
    | false => renId m id
def invId : List (Nat × Nat) → Nat → Option Nat
  | [], _ => none
  | (o, n) :: m, id => match Nat.beq id n with
    | true => some o
    | false => invId m id
def renC (m : List (Nat × Nat)) : DC → Option DC
  | .st c => some (.st c)
  | .nil => some .nil
  | .ptr id off => match renId m id with
    | some n => some (.ptr n off)
    | none => none
  | .own id => match renId m id with
    | some n => some (.own n)
    | none => none
  | .rptr id z i off => match renId m id with
    | some n => some (.rptr n z i off)
    | none => none
  | .mp id => match renId m id with
    | some n => some (.mp n)
    | none => none
  | .clo g id => match renId m id with
    | some n => some (.clo g n)
    | none => none
def renCs (m : List (Nat × Nat)) : List DC → Option (List DC)
  | [] => some []
  | d :: l => match renC m d with
    | some d' => match renCs m l with
      | some l' => some (d' :: l')
      | none => none
    | none => none
def renXs (m : List (Nat × Nat)) : List DX → Option (List DX)
  | [] => some []
  | x :: l => match renCs m x.2 with
    | some d' => match renXs m l with
      | some l' => some ((x.1, d') :: l')
      | none => none
    | none => none
def renDV (m : List (Nat × Nat)) : DV → Option DV
  | .val x => match renCs m x.2 with
    | some l => some (.val (x.1, l))
    | none => none
  | .tup l => match renXs m l with
    | some l' => some (.tup l')
    | none => none
def renL (m : List (Nat × Nat)) : List (List DC) → Option (List (List DC))
  | [] => some []
  | e :: l => match renCs m e with
    | some e' => match renL m l with
      | some l' => some (e' :: l')
      | none => none
    | none => none
def renBlk (m : List (Nat × Nat)) : Blk → Option Blk
  | .box t cs => match renCs m cs with
    | some l => some (.box t l)
    | none => none
  | .rowD z l => match renL m l with
    | some l' => some (.rowD z l')
    | none => none
  | b => some b
def canonEnv (m : List (Nat × Nat)) (E : EF) : List Nat → Option Env
  | [] => some []
  | k :: ks => match E k with
    | some d => match renDV m d with
      | some d' => match canonEnv m E ks with
        | some E' => some ((k, some d') :: E')
        | none => none
      | none => none
    | none => none
def canonHp (m : List (Nat × Nat)) (H : HF) : List (Nat × Nat) → Option Hp
  | [] => some []
  | (o, n) :: l => match H o with
    | some b => match renBlk m b with
      | some b' => match canonHp m H l with
        | some H' => some ((n, some b') :: H')
        | none => none
      | none => none
    | none => none
def hasN (x : Nat) : List Nat → Bool
  | [] => false
  | y :: l => Nat.beq x y || hasN x l
def distinct : List Nat → Bool
  | [] => true
  | x :: l => !hasN x l && distinct l
def canon (ks : List Nat) (m : List (Nat × Nat)) (n : Nat) (S : St) : Option St :=
  match distinct (m.map Prod.fst) && distinct (m.map Prod.snd) && m.all fun p => Nat.blt p.2 n with
  | true => match canonEnv m S.env.get ks with
    | some E => match canonHp m S.hp.get m with
      | some H => some ⟨E, H, n⟩
      | none => none
    | none => none
  | false => none
theorem hasN_iff {x : Nat} {l : List Nat} : hasN x l = true ↔ x ∈ l := by
  induction l with
  | nil => simp [hasN]
  | cons y l ih => simp [hasN, ih]
theorem distinct_nodup {l : List Nat} (h : distinct l = true) : l.Nodup := by
  induction l with
  | nil => exact List.nodup_nil
  | cons x l ih =>
    rw [distinct] at h
    obtain ⟨h1, h2⟩ := ble_and h
    refine List.nodup_cons.2 ⟨fun hx => ?_, ih h2⟩
    rw [hasN_iff.2 hx] at h1
    cases h1
theorem renId_mem {m : List (Nat × Nat)} {o n : Nat} (h : renId m o = some n) : (o, n) ∈ m := by
  induction m with
  | nil => cases h
  | cons p m ih =>
    obtain ⟨a, b⟩ := p
    simp only [renId] at h
    split at h
    · rename_i e
      simp at h; subst h
      rw [Nat.eq_of_beq_eq_true e]; exact List.mem_cons_self
    · exact List.mem_cons_of_mem _ (ih h)
theorem invId_of {m : List (Nat × Nat)} {o n : Nat} (hd : (m.map Prod.snd).Nodup) (h : (o, n) ∈ m) : invId m n = some o := by
  induction m with
  | nil => cases h
  | cons p m ih =>
    obtain ⟨a, b⟩ := p
    simp only [List.map_cons, List.nodup_cons] at hd
    simp only [invId]
    rcases List.mem_cons.1 h with h' | h'
    · cases h'; simp
    · split
      · rename_i e
        have := Nat.eq_of_beq_eq_true e
        subst this
        exact absurd (List.mem_map.2 ⟨(o, n), h', rfl⟩ : n ∈ m.map Prod.snd) hd.1
      · exact ih hd.2 h'
theorem old_unique {m : List (Nat × Nat)} {o i j : Nat} (hd : (m.map Prod.fst).Nodup) (h : (o, i) ∈ m) (k : (o, j) ∈ m) : i = j := by
  induction m with
  | nil => cases h
  | cons p m ih =>
    obtain ⟨a, b⟩ := p
    simp only [List.map_cons, List.nodup_cons] at hd
    rcases List.mem_cons.1 h with h' | h' <;> rcases List.mem_cons.1 k with k' | k'
    · cases h'; cases k'; rfl
    · cases h'; exact absurd (List.mem_map.2 ⟨(o, j), k', rfl⟩ : o ∈ m.map Prod.fst) hd.1
    · cases k'; exact absurd (List.mem_map.2 ⟨(o, i), h', rfl⟩ : o ∈ m.map Prod.fst) hd.1
    · exact ih hd.2 h' k'
theorem canonHp_get {m : List (Nat × Nat)} {H : HF} : ∀ {l : List (Nat × Nat)} {H' : Hp} {n : Nat} {b' : Blk}, canonHp m H l = some H' → H'.get n = some b' → ∃ o b, (o, n) ∈ l ∧ H o = some b ∧ renBlk m b = some b' := by
  intro l
  induction l with
  | nil => intro H' n b' h e; simp [canonHp] at h; subst h; simp [Hp.get] at e
  | cons p l ih =>
    intro H' n b' h e
    obtain ⟨o, i⟩ := p
    simp only [canonHp] at h
    split at h
    · rename_i b hb
      split at h
      · rename_i b1 hb1
        split at h
        · rename_i H1 hH1
          simp at h; subst h
          rw [Hp.get_cons] at e
          unfold updH at e
          split at e
          · rename_i hn
            subst hn
            simp at e; subst e
            exact ⟨o, b, List.mem_cons_self, hb, hb1⟩
          · obtain ⟨o', b2, h1, h2⟩ := ih hH1 e
            exact ⟨o', b2, List.mem_cons_of_mem _ h1, h2⟩
        · cases h
      · cases h
    · cases h
theorem canonEnv_get {m : List (Nat × Nat)} {E : EF} : ∀ {ks : List Nat} {E' : Env} {s : Nat} {d' : DV}, canonEnv m E ks = some E' → E'.get s = some d' → ∃ d, E s = some d ∧ renDV m d = some d' := by
  intro ks
  induction ks with
  | nil => intro E' s d' h e; simp [canonEnv] at h; subst h; simp [Env.get] at e
  | cons k ks ih =>
    intro E' s d' h e
    simp only [canonEnv] at h
    split at h
    · rename_i d hd
      split at h
      · rename_i d1 hd1
        split at h
        · rename_i E1 hE1
          simp at h; subst h
          rw [Env.get_cons] at e
          simp only at e
          split at e
          · rename_i hs
            subst hs
            simp at e; subst e
            exact ⟨d, hd, hd1⟩
          · exact ih hE1 e
        · cases h
      · cases h
    · cases h
section
variable {F : Fix} {β : Nat → Option Nat} {N : Nat → Prop} {H H' : HF} {w : World} {m : List (Nat × Nat)}
def renB (m : List (Nat × Nat)) (β : Nat → Option Nat) : Nat → Option Nat := fun id => match invId m id with
  | some o => β o
  | none => none
def renN (m : List (Nat × Nat)) : Nat → Prop := fun id => ∃ o, (o, id) ∈ m
theorem renL_len {m : List (Nat × Nat)} : ∀ {l l' : List (List DC)}, renL m l = some l' → l'.length = l.length
  | [], l', h => by simp [renL] at h; subst h; rfl
  | e :: l, l', h => by
    unfold renL at h
    split at h
    · split at h
      · cases h; simp [renL_len (by assumption)]
      · cases h
    · cases h
theorem renL_get {m : List (Nat × Nat)} : ∀ {l l' : List (List DC)} {i : Nat} {e' : List DC}, renL m l = some l' → l'[i]? = some e' → ∃ e, l[i]? = some e ∧ renCs m e = some e'
  | [], l', i, e', h, hi => by simp [renL] at h; subst h; simp at hi
  | e :: l, l', i, e', h, hi => by
    unfold renL at h
    split at h
    · rename_i a ha
      split at h
      · rename_i b hb
        cases h
        cases i with
        | zero => simp at hi; subst hi; exact ⟨e, rfl, ha⟩
        | succ i =>
          simp at hi
          obtain ⟨d, d1, d2⟩ := renL_get hb hi
          exact ⟨d, by simpa using d1, d2⟩
      · cases h
    · cases h
structure RenOk (m : List (Nat × Nat)) (H H' : HF) : Prop where
  olds : (m.map Prod.fst).Nodup
  news : (m.map Prod.snd).Nodup
  heap : ∀ n b', H' n = some b' → ∃ o b, (o, n) ∈ m ∧ H o = some b ∧ renBlk m b = some b'
theorem RenOk.beta (h : RenOk m H H') {o n : Nat} (hm : (o, n) ∈ m) : renB m β n = β o := by simp [renB, invId_of h.news hm]
theorem RenOk.stable (h : RenOk m H H') {b o : Nat} (hs : Fw.stable β H b o) : Fw.stable (renB m β) H' b o := by
  intro id blk' he hbe
  obtain ⟨old, blk, h1, h2, h3⟩ := h.heap id blk' he
  rw [h.beta h1] at hbe
  have := hs old blk h2 hbe
  cases blk <;> simp only [renBlk] at h3
  · exact this.elim
  · cases h3; exact this
  · cases h3; exact this
  · exact this.elim
  · exact this.elim
theorem RenOk.mv (h : RenOk m H H') : (MV F β H w).le (MV F (renB m β) H' w) := by
  intro b o v e
  unfold MV at *
  split
  · rename_i hb
    rw [if_pos hb] at e
    split at e
    · rename_i hs
      rw [if_pos (h.stable hs)]
      exact e
    · cases e
  · rename_i hb; rw [if_neg hb] at e; exact e
theorem RenOk.mr (h : RenOk m H H') : (MR F β H w).le (MR F (renB m β) H' w) := by
  intro b o v e
  unfold MR at *
  split
  · rename_i hb; rw [if_pos hb] at e; exact h.mv b o v e
  · rename_i hb; rw [if_neg hb] at e; exact e
theorem RenOk.repD (h : RenOk m H H') {v : Value} {d d' : DC} (hd : RepD F β N H w v d) (hr : renC m d = some d') : RepD F (renB m β) (renN m) H' w v d' := by
  cases d with
  | st c => simp [renC] at hr; subst hr; exact Rep.mono h.mv h.mr hd
  | nil => simp [renC] at hr; subst hr; exact hd
  | ptr id off =>
    simp only [renC] at hr
    split at hr
    · rename_i n hn
      simp at hr; subst hr
      have hm := renId_mem hn
      obtain ⟨_, b, h1, h2⟩ := hd
      exact ⟨⟨_, hm⟩, b, by rw [h.beta hm]; exact h1, h2⟩
    · cases hr
  | own id =>
    simp only [renC] at hr
    split at hr
    · rename_i n hn
      simp at hr; subst hr
      have hm := renId_mem hn
      obtain ⟨_, h1, h2⟩ := hd
      refine ⟨⟨_, hm⟩, h1, fun blk0 z n0 hb hz0 => ?_⟩
      obtain ⟨o, b, q1, q2, q3⟩ := h.heap _ _ hb
      have ho : o = id := by
        have e1 := invId_of h.news hm
        rw [invId_of h.news q1] at e1
        simpa using e1
      subst ho
      cases b <;> simp only [renBlk] at q3
      · split at q3 <;> cases q3
        cases hz0
      · cases q3; cases hz0
      · cases q3
        have := h2 _ _ _ q2 hz0
        unfold OwnV at *
        rw [h.beta hm]; exact this
      · split at q3
        · rename_i l' hl'
          cases q3
          have := h2 _ z n0 q2 (by rw [← hz0]; simp [Blk.sz, renL_len hl'])
          unfold OwnV at *
          rw [h.beta hm]; exact this
        · cases q3
      · cases q3; cases hz0
    · cases hr
  | rptr id z i off =>
    simp only [renC] at hr
    split at hr
    · rename_i n hn
      simp at hr; subst hr
      have hm := renId_mem hn
      obtain ⟨_, b, h1, h2⟩ := hd
      exact ⟨⟨_, hm⟩, b, by rw [h.beta hm]; exact h1, h2⟩
    · cases hr
  | clo g id =>
    simp only [renC] at hr
    split at hr
    · rename_i n hn
      simp at hr; subst hr
      have hm := renId_mem hn
      obtain ⟨_, b, h1, h2⟩ := hd
      exact ⟨⟨_, hm⟩, b, by rw [h.beta hm]; exact h1, h2⟩
    · cases hr
  | mp id =>
    simp only [renC] at hr
    split at hr
    · rename_i n hn
      simp at hr; subst hr
      have hm := renId_mem hn
      obtain ⟨_, b, h1, h2⟩ := hd
      exact ⟨⟨_, hm⟩, b, by rw [h.beta hm]; exact h1, h2⟩
    · cases hr
theorem renCs_get {l l' : List DC} (h : renCs m l = some l') : l'.length = l.length ∧ ∀ (k : Nat) (d' : DC), l'[k]? = some d' → ∃ d, l[k]? = some d ∧ renC m d = some d' := by
  induction l generalizing l' with
  | nil => simp [renCs] at h; subst h; simp
  | cons d l ih =>
    simp only [renCs] at h
    split at h
    · rename_i d1 hd1
      split at h
      · rename_i l1 hl1
        simp at h; subst h
        obtain ⟨h1, h2⟩ := ih hl1
        refine ⟨by simp [h1], fun k d' hk => ?_⟩
        cases k with
        | zero => simp at hk; subst hk; exact ⟨d, rfl, hd1⟩
        | succ k => simpa using h2 k d' (by simpa using hk)
      · cases h
    · cases h
theorem RenOk.repDX (h : RenOk m H H') {v : Value} {x : DX} {l : List DC} (hd : RepDX F β N H w v x) (hr : renCs m x.2 = some l) : RepDX F (renB m β) (renN m) H' w v (x.1, l) := by
  obtain ⟨h1, h2⟩ := renCs_get hr
  obtain ⟨g, cs⟩ := x
  cases g
  · obtain ⟨c, hc, hrep⟩ := hd
    simp at hc; subst hc
    obtain ⟨c', rfl⟩ : ∃ c', l = [c'] := List.length_eq_one_iff.1 (by simpa using h1)
    obtain ⟨d, hd1, hd2⟩ := h2 0 c' rfl
    simp at hd1; subst hd1
    exact ⟨c', rfl, h.repD hrep hd2⟩
  · obtain ⟨arr, h3, h4, h5⟩ := hd
    refine ⟨arr, h3, by rw [h4, h1], fun k c hk => ?_⟩
    obtain ⟨d, hd1, hd2⟩ := h2 k c hk
    exact h.repD (h5 k d hd1) hd2
theorem renXs_get {l l' : List DX} (h : renXs m l = some l') : l'.length = l.length ∧ ∀ (k : Nat) (d' : DX), l'[k]? = some d' → ∃ d c, l[k]? = some d ∧ renCs m d.2 = some c ∧ d' = (d.1, c) := by
  induction l generalizing l' with
  | nil => simp [renXs] at h; subst h; simp
  | cons d l ih =>
    simp only [renXs] at h
    split at h
    · rename_i d1 hd1
      split at h
      · rename_i l1 hl1
        simp at h; subst h
        obtain ⟨h1, h2⟩ := ih hl1
        refine ⟨by simp [h1], fun k d' hk => ?_⟩
        cases k with
        | zero => simp at hk; subst hk; exact ⟨d, d1, rfl, hd1, rfl⟩
        | succ k => simpa using h2 k d' (by simpa using hk)
      · cases h
    · cases h
theorem RenOk.repDV (h : RenOk m H H') {v : Value} {d d' : DV} (hd : RepDV F β N H w v d) (hr : renDV m d = some d') : RepDV F (renB m β) (renN m) H' w v d' := by
  cases d with
  | val x =>
    simp only [renDV] at hr
    split at hr
    · rename_i l hl
      simp at hr; subst hr
      exact h.repDX hd hl
    · cases hr
  | tup l =>
    simp only [renDV] at hr
    split at hr
    · rename_i l1 hl
      simp at hr; subst hr
      obtain ⟨h1, h2⟩ := renXs_get hl
      obtain ⟨arr, q1, q2, q3⟩ := hd
      refine ⟨arr, q1, by rw [q2, h1], fun k x hk => ?_⟩
      obtain ⟨d, c, a1, a2, rfl⟩ := h2 k x hk
      exact h.repDX (q3 k d a1) a2
    · cases hr
theorem RenOk.heapRel (h : RenOk m H H') (hR : HeapRel F β N H w) : HeapRel F (renB m β) (renN m) H' w := by
  refine ⟨fun id blk' he => ?_, fun i j x y b hi hj bi bj => ?_, hR.below, ?_⟩
  · obtain ⟨o, blk, h1, h2, h3⟩ := h.heap id blk' he
    refine ⟨⟨_, h1⟩, ?_⟩
    have hb := (hR.rel o blk h2).2
    have eb := h.beta (β := β) h1
    cases blk with
    | box t cs =>
      simp only [renBlk] at h3
      split at h3
      · rename_i l hl
        cases h3
        obtain ⟨e1, e2⟩ := renCs_get hl
        obtain ⟨b, arr, T, q1, q2, q3, q4, q5⟩ := hb
        refine ⟨b, arr, T, by rw [eb]; exact q1, q2, q3, by rw [q4, e1], fun k x hk => ?_⟩
        obtain ⟨d, a1, a2⟩ := e2 k x hk
        exact h.repD (q5 k d a1) a2
      · cases h3
    | fbox cs =>
      simp only [renBlk] at h3
      cases h3
      obtain ⟨b, arr, T, q1, q2, q3, q4, q5⟩ := hb
      exact ⟨b, arr, T, by rw [eb]; exact q1, q2, q3, q4, fun k x hk => (q5 k x hk).mono h.mv h.mr⟩
    | row mu z c =>
      simp only [renBlk] at h3
      cases h3
      obtain ⟨q0, q1 | ⟨b, cap, q1, q2, arr, T, p1, p2, p3, p4, p5, p6, p7⟩⟩ := hb
      · exact ⟨q0, .inl ⟨by rw [eb]; exact q1.1, q1.2⟩⟩
      · exact ⟨q0, .inr ⟨b, cap, by rw [eb]; exact q1, q2, arr, T, p1, p2, p3, p4, p5, p6, fun i e j x he hx => (p7 i e j x he hx).mono h.mv (Mem.le_refl _)⟩⟩
    | rowD z l =>
      simp only [renBlk] at h3
      split at h3
      · rename_i l' hl'
        cases h3
        obtain ⟨⟨z0, hz⟩, q1 | ⟨b, cap, arr, T, q1, q2, q3, q4, q5, q6⟩⟩ := hb
        all_goals
          have hlen : ∀ (i : Nat) (e : List DC), l'[i]? = some e → e.length = z := fun i e he => by
            obtain ⟨d, d1, d2⟩ := renL_get hl' he
            rw [(renCs_get d2).1]; exact hz i d d1
        · exact ⟨⟨z0, hlen⟩, .inl ⟨by rw [eb]; exact q1.1, by rw [renL_len hl']; exact q1.2⟩⟩
        · refine ⟨⟨z0, hlen⟩, .inr ⟨b, cap, arr, T, by rw [eb]; exact q1, q2, q3, q4, by rw [renL_len hl']; exact q5, fun i e k x he hx => ?_⟩⟩
          obtain ⟨d, d1, d2⟩ := renL_get hl' he
          obtain ⟨y, y1, y2⟩ := (renCs_get d2).2 k x hx
          exact h.repD (q6 i d k y d1 y1) y2
      · cases h3
    | map es =>
      simp only [renBlk] at h3
      cases h3
      obtain ⟨b, arr, ck, q1, q2, q3, q4, q5⟩ := hb
      exact ⟨b, arr, ck, by rw [eb]; exact q1, q2, q3, q4, fun i k x e hi he => let ⟨a1, a2⟩ := q5 i k x e hi he; ⟨a1, a2.mono h.mv h.mr⟩⟩
  · obtain ⟨o, bo, h1, h2, _⟩ := h.heap i _ hi
    obtain ⟨o', bo', h1', h2', _⟩ := h.heap j _ hj
    rw [h.beta h1] at bi
    rw [h.beta h1'] at bj
    have := hR.inj o o' _ _ _ h2 h2' bi bj
    subst this
    exact old_unique h.olds h1 h1'
  · intro b o v e
    obtain ⟨h1, h2⟩ := hR.mem0 b o v e
    exact ⟨h1, fun hb => h.stable (h2 hb)⟩
end
theorem canon_sub {ks : List Nat} {m : List (Nat × Nat)} {n : Nat} {S S' : St} (h : canon ks m n S = some S') : Sub S S' := by
  unfold canon at h
  split at h
  · rename_i hd
    obtain ⟨hd, h3⟩ := ble_and hd
    obtain ⟨h1, h2⟩ := ble_and hd
    split at h
    · rename_i E hE
      split at h
      · rename_i H hH
        simp at h; subst h
        rintro F nt a w ⟨N, ⟨q1, q2, q0, β, q3, q4⟩, q5⟩
        have hok : RenOk m S.hp.get H.get := ⟨distinct_nodup h1, distinct_nodup h2, fun i b' e => canonHp_get hH e⟩
        refine ⟨renN m, ⟨q1, q2, q0, renB m β, fun s d' e => ?_, hok.heapRel q4⟩, ?_⟩
        · obtain ⟨d, e1, e2⟩ := canonEnv_get hE e
          exact hok.repDV (q3 s d e1) e2
        · rintro id ⟨o, ho⟩
          have := List.all_eq_true.1 h3 _ ho
          exact Nat.lt_of_le_of_lt (tag_le id) (by simpa [Nat.blt_eq] using this)
      · cases h
    · cases h
  · cases h
theorem LFP_ind {C : Ctx} {c : Code} {kx : Nat → St → Prop} {kr : St → Prop} {ι : Type} (Inv : ι → Prop) (μ : ι → Nat) (σ : ι → St)
    (step : ∀ i, Inv i → awp C c (σ i) (fun S' => ∃ j, Inv j ∧ μ j < μ i ∧ Sub S' (σ j)) kx kr) : ∀ {i : ι}, Inv i → LFP (fun Z S => awp C c S Z kx kr) (σ i) := by
  have key : ∀ n i, μ i = n → Inv i → LFP (fun Z S => awp C c S Z kx kr) (σ i) := by
    intro n
    induction n using Nat.strongRecOn with
    | _ n ih =>
      intro i hn hi
      refine LFP_round (awp_mono (step i hi) (fun S' h => ?_) (fun _ _ h => h) fun _ h => h)
      obtain ⟨j, h1, h2, h3⟩ := h
      exact ⟨σ j, h3, ih (μ j) (hn ▸ h2) j rfl h1⟩
  exact fun {i} hi => key _ i rfl hi
theorem loop_ind {C : Ctx} {c : Code} {kx : Nat → St → Prop} {kr : St → Prop} {ι : Type} (Inv : ι → Prop) (μ : ι → Nat) (σ : ι → St) (i : ι) {S : St} (hS : Sub S (σ i)) (hi : Inv i)
    (step : ∀ i, Inv i → Awp C c (σ i) (fun S' => ∃ j, Inv j ∧ μ j < μ i ∧ Sub S' (σ j)) kx kr) : LoopA C c S kx kr :=
  ⟨σ i, hS, LFP_ind Inv μ σ (fun i h => (step i h).out) hi⟩
end Go.Fw
namespace Go.Fw
open Go.RowKit Go.ChangeShapes
def Fit (C : Ctx) : Nat → TypeId → List SC → Prop
  | 0, _, _ => False
  | d + 1, t, xs => match C.ti t with
    | none => False
    | some i => match i.cls with
      | .int k => ∃ n, xs = [.lit (.int k n)] ∧ (Lit.int k n).wf = true
      | .bool => ∃ b, xs = [.lit (.bool b)]
      | .str => ∃ s : ByteArray, xs = [.lit (.string s)] ∧ s.size ≤ maxLen
      | .slice e => match C.isInts e with
        | true => ∃ l : List Int, xs = [.ints l] ∧ l.length ≤ maxLen ∧ ∀ n ∈ l, (Lit.int .i64 n).wf = true
        | false => ∃ es : List (List SC), xs = [.view es] ∧ es.length ≤ maxLen ∧ ∀ e' ∈ es, Fit C d e e'
      | .struct fs => ∃ parts : List (List SC), xs = parts.flatten ∧ parts.length = fs.length ∧ ∀ (k o : Nat) (ft : TypeId), fs[k]? = some (o, ft) → ∃ p, parts[k]? = some p ∧ Fit C d ft p
      | .array n e => ∃ parts : List (List SC), xs = parts.flatten ∧ parts.length = n ∧ ∀ p ∈ parts, Fit C d e p
      | _ => False
def tight (C : Ctx) : Nat → List (Nat × TypeId) → Nat → Bool
  | at_, [], size => Nat.beq at_ size
  | at_, (o, ft) :: r, size => match C.ti ft with
    | some i => Nat.beq o at_ && tight C (at_ + i.size) r size
    | none => false
def dataTy (C : Ctx) : Nat → TypeId → Bool
  | 0, _ => false
  | d + 1, t => match C.ti t with
    | none => false
    | some i => match i.cls with
      | .int _ => Nat.beq i.size 1
      | .bool => Nat.beq i.size 1
      | .str => Nat.beq i.size 1
      | .slice e => Nat.beq i.size 1 && (match C.ti e with
        | some ie => Nat.ble 1 ie.size && dataTy C d e && (match C.isInts e with | true => Nat.beq ie.size 1 | false => true)
        | none => false)
      | .struct fs => tight C 0 fs i.size && fs.all fun p => dataTy C d p.2
      | .array n e => (match C.ti e with
        | some ie => Nat.beq (n * ie.size) i.size && dataTy C d e
        | none => false)
      | _ => false
theorem cellsOf_eq {P : Program} {t : TypeId} {i : TI} {f : TypeInfo} {d : TypeDesc} {v : Value} (h : TOk P t i f d v) : P.cellsOf t = i.size := by
  simp [Program.cellsOf, h.info, h.size]
theorem getD_drop_take {α : Type} (l : List α) (d : α) {o n k : Nat} (hk : k < n) : ((l.drop o).take n).getD k d = l.getD (o + k) d := by
  simp [List.getD_eq_getElem?_getD, hk, List.getElem?_drop]
def Reads (m : Mem) (cs : List Value) (xs : List SC) : Prop := xs.length = cs.length ∧ ∀ (k : Nat) (c : SC), xs[k]? = some c → Rep m nomem (cs.getD k undef) c
theorem Reads.one {m : Mem} {v : Value} {c : SC} (h : Rep m nomem v c) : Reads m [v] [c] := by
  refine ⟨rfl, fun k c' hk => ?_⟩
  cases k with
  | zero => simp at hk; subst hk; exact h
  | succ k => simp at hk
theorem Reads.parts {m : Mem} {cs : List Value} {C : Ctx} : ∀ {fs : List (Nat × TypeId)} {at_ size : Nat} {Q : TypeId → List SC → Prop}, tight C at_ fs size = true → cs.length = size →
    (∀ (k o : Nat) (ft : TypeId), fs[k]? = some (o, ft) → ∀ i, C.ti ft = some i → ∃ p, Q ft p ∧ p.length = i.size ∧ Reads m ((cs.drop o).take i.size) p) →
    ∃ parts : List (List SC), Reads m (cs.drop at_) parts.flatten ∧ parts.length = fs.length ∧ ∀ (k o : Nat) (ft : TypeId), fs[k]? = some (o, ft) → ∃ p, parts[k]? = some p ∧ Q ft p := by
  intro fs
  induction fs with
  | nil =>
    intro at_ size Q ht hs _
    have := Nat.eq_of_beq_eq_true ht
    exact ⟨[], ⟨by simp; omega, by intro k c hk; simp at hk⟩, rfl, by intro k o ft hk; simp at hk⟩
  | cons f fs ih =>
    obtain ⟨o, ft⟩ := f
    intro at_ size Q ht hs hq
    simp only [tight] at ht
    split at ht
    · rename_i i hi
      obtain ⟨h1, h2⟩ := ble_and ht
      have h1 := Nat.eq_of_beq_eq_true h1
      subst h1
      obtain ⟨p, hp, hl, hr⟩ := hq 0 o ft rfl i hi
      obtain ⟨parts, q1, q2, q3⟩ := ih h2 hs (Q := Q) (fun k o' ft' hk => hq (k + 1) o' ft' (by simpa using hk))
      have hlen : p.length = ((cs.drop o).take i.size).length := hr.1
      have hle : o + i.size ≤ cs.length ∨ i.size = 0 := by
        simp at hlen; omega
      refine ⟨p :: parts, ⟨?_, ?_⟩, by simp [q2], ?_⟩
      · have := q1.1
        simp only [List.flatten_cons, List.length_append, this, List.length_drop] at *
        rcases hle with h | h
        · omega
        · omega
      · intro k c hk
        simp only [List.flatten_cons] at hk
        by_cases hkp : k < p.length
        · rw [List.getElem?_append_left hkp] at hk
          have := hr.2 k c hk
          rw [getD_drop_take _ _ (by omega)] at this
          simpa [List.getD_eq_getElem?_getD, List.getElem?_drop] using this
        · rw [List.getElem?_append_right (by omega)] at hk
          have := q1.2 _ c hk
          have e : o + i.size + (k - p.length) = o + k := by omega
          simpa [List.getD_eq_getElem?_getD, List.getElem?_drop, e] using this
      · intro k o' ft' hk
        cases k with
        | zero => simp at hk; obtain ⟨rfl, rfl⟩ := hk; exact ⟨p, rfl, hp⟩
        | succ k => simpa using q3 k o' ft' (by simpa using hk)
    · cases ht
theorem Reads.elems {m : Mem} {Q : List SC → Prop} {z : Nat} : ∀ {n : Nat} {cs : List Value}, cs.length = n * z →
    (∀ i, i < n → ∃ p, Q p ∧ Reads m ((cs.drop (i * z)).take z) p) → ∃ parts : List (List SC), Reads m cs parts.flatten ∧ parts.length = n ∧ ∀ p ∈ parts, Q p := by
  intro n
  induction n with
  | zero => intro cs hl _; exact ⟨[], ⟨by simp; simpa using hl.symm, by intro k c hk; simp at hk⟩, rfl, by simp⟩
  | succ n ih =>
    intro cs hl h
    obtain ⟨p, hp, hr⟩ := h 0 (by omega)
    have hz : z ≤ cs.length := by rw [hl]; exact Nat.le_mul_of_pos_left z (by omega)
    have hl' : (cs.drop z).length = n * z := by rw [List.length_drop, hl, Nat.add_mul, Nat.one_mul]; omega
    obtain ⟨parts, q1, q2, q3⟩ := ih hl' (fun i hi => by
      obtain ⟨p, hp, hr⟩ := h (i + 1) (by omega)
      refine ⟨p, hp, ?_⟩
      rw [List.drop_drop]
      rwa [Nat.add_mul, Nat.one_mul, Nat.add_comm] at hr)
    have hpl : p.length = z := by have := hr.1; simp at this; omega
    refine ⟨p :: parts, ⟨?_, ?_⟩, by simp [q2], ?_⟩
    · have := q1.1
      simp only [List.flatten_cons, List.length_append, this, List.length_drop]
      omega
    · intro k c hk
      simp only [List.flatten_cons] at hk
      by_cases hkp : k < p.length
      · rw [List.getElem?_append_left hkp] at hk
        have := hr.2 k c hk
        rw [getD_drop_take _ _ (by omega)] at this
        simpa using this
      · rw [List.getElem?_append_right (by omega)] at hk
        have := q1.2 _ c hk
        have e : z + (k - p.length) = k := by omega
        simpa [List.getD_eq_getElem?_getD, List.getElem?_drop, e] using this
    · intro p' hp'
      rcases List.mem_cons.1 hp' with rfl | hp'
      · exact hp
      · exact q3 p' hp'
theorem add_add (a : Addr) (n k : Nat) (hs : a.spot = none) : (a.add n).add k = ⟨a.block, a.off + (n + k), none⟩ := by
  obtain ⟨b, o, s⟩ := a
  simp only at hs
  subst hs
  unfold Addr.add
  by_cases hn : n = 0 <;> by_cases hk : k = 0 <;> simp [hn, hk, Nat.add_assoc]
section
variable {H : Type} {enc : TypeId × Value → H} {C : Ctx} {w : World} {spare : Nat → Bool}
theorem slice_elems {a : Addr} {len z : Nat} {Q : List SC → Prop} (hz : 0 < z) (h : ∀ i, i < len → ∃ cs xs, w.cells? 0 (a.add (i * z)) z = some cs ∧ Q xs ∧ Reads (rd w) cs xs) :
    ∃ es : List (List SC), es.length = len ∧ (∀ e ∈ es, Q e) ∧ (0 < len → ∃ b o, a = ⟨b, o, none⟩ ∧ (∀ e ∈ es, e.length = z) ∧ (∀ k, k < len * z → ∃ v, rd w b (o + k) = some v) ∧
      ∀ (i : Nat) (e : List SC) (j : Nat) (x : SC), es[i]? = some e → e[j]? = some x → Rep (rd w) nomem ((rd w b (o + (i * z + j))).getD undef) x) := by
  by_cases hl : len = 0
  · subst hl; exact ⟨[], rfl, by simp, by intro h; omega⟩
  have hspot : a.spot = none := by
    obtain ⟨cs, xs, h1, _⟩ := h 0 (by omega)
    obtain ⟨_, h2, h3⟩ := World.cells?_some h1
    have := h3 0 hz
    cases h4 : cs[0]? with
    | none => simp at h4; subst h4; simp at h2; omega
    | some v =>
      rw [h4] at this
      have := World.cell?_spot this
      simpa [Addr.add] using this
  have hall : ∀ n, n ≤ len → ∃ es : List (List SC), es.length = n ∧ (∀ e ∈ es, Q e ∧ e.length = z) ∧ ∀ (i : Nat) (e : List SC), es[i]? = some e → ∃ cs, w.cells? 0 (a.add (i * z)) z = some cs ∧ Reads (rd w) cs e := by
    intro n
    induction n with
    | zero => intro _; exact ⟨[], rfl, by simp, by intro i e he; simp at he⟩
    | succ n ih =>
      intro hn
      obtain ⟨es, h1, h2, h3⟩ := ih (by omega)
      obtain ⟨cs, xs, q1, q2, q3⟩ := h n (by omega)
      refine ⟨es ++ [xs], by simp [h1], ?_, ?_⟩
      · intro e he
        rcases List.mem_append.1 he with he | he
        · exact h2 e he
        · simp at he; subst he
          exact ⟨q2, by rw [q3.1, (World.cells?_some q1).2.1]⟩
      · intro i e he
        by_cases hi : i < es.length
        · rw [List.getElem?_append_left hi] at he; exact h3 i e he
        · rw [List.getElem?_append_right (by omega)] at he
          have : i - es.length = 0 := by
            cases hx : i - es.length with
            | zero => rfl
            | succ m => rw [hx] at he; simp at he
          rw [this] at he
          simp at he; subst he
          have : i = n := by omega
          subst this
          exact ⟨cs, q1, q3⟩
  obtain ⟨es, h1, h2, h3⟩ := hall len (Nat.le_refl _)
  refine ⟨es, h1, fun e he => (h2 e he).1, fun _ => ⟨a.block, a.off, by obtain ⟨b, o, s⟩ := a; simp only at hspot; subst hspot; rfl, fun e he => (h2 e he).2, ?_, ?_⟩⟩
  · intro k hk
    have hi : k / z < len := (Nat.div_lt_iff_lt_mul hz).2 hk
    obtain ⟨cs, q1, _⟩ := h3 (k / z) es[k / z] (by simp [h1, hi])
    obtain ⟨_, q2, q4⟩ := World.cells?_some q1
    have hm : k % z < z := Nat.mod_lt _ hz
    have q5 := q4 (k % z) hm
    rw [add_add _ _ _ hspot] at q5
    have e : k / z * z + k % z = k := by rw [Nat.mul_comm]; exact Nat.div_add_mod k z
    rw [e] at q5
    refine ⟨cs[k % z]'(by omega), ?_⟩
    show w.cell? _ = _
    rw [q5]
    simp [q2, hm]
  · intro i e j x he hx
    obtain ⟨cs, q1, q3⟩ := h3 i e he
    obtain ⟨_, q2, q4⟩ := World.cells?_some q1
    have hj : j < z := by
      have := (h2 e (List.mem_of_getElem? he)).2
      have := (List.getElem?_eq_some_iff.1 hx).1
      omega
    have q5 := q4 j hj
    rw [add_add _ _ _ hspot] at q5
    have := q3.2 j x hx
    show Rep (rd w) nomem ((w.cell? ⟨a.block, a.off + (i * z + j), none⟩).getD undef) x
    rw [q5]
    simpa [List.getD_eq_getElem?_getD] using this
theorem trod_fit (hC : C.Ok) : ∀ {d : Nat} {t : TypeId} {cs : List Value} {fuel : Nat} {y : DataW H × List MemPlace}, dataTy C d t = true → DataW.trod enc C.P w 0 spare true fuel t cs = some y →
    ∃ xs, Fit C d t xs ∧ Reads (rd w) cs xs ∧ ∀ i, C.ti t = some i → xs.length = i.size := by
  intro d
  induction d with
  | zero => intro t cs fuel y h; simp [dataTy] at h
  | succ d ih =>
    intro t cs fuel y hd h
    unfold dataTy at hd
    split at hd
    · cases hd
    rename_i i hi
    obtain ⟨f, ds, v, hT⟩ := hC.get hi
    have hu := hT.und
    have hcl := hT.cls
    unfold Fit
    simp only [hi]
    split at hd
    · rename_i k hk
      rw [hk] at hcl
      rw [cls_int hcl] at hu
      obtain ⟨n, rfl, _, hw⟩ := DataW.trod_int hu h
      refine ⟨_, ⟨n, rfl, hw⟩, Reads.one (.lit rfl), ?_⟩
      intro j hj; simp at hj; subst hj
      have := Nat.eq_of_beq_eq_true hd
      simp [this]
    · rename_i hk
      rw [hk] at hcl
      rw [cls_bool hcl] at hu
      obtain ⟨b, rfl, _⟩ := DataW.trod_bool hu h
      refine ⟨_, ⟨b, rfl⟩, Reads.one (.lit rfl), ?_⟩
      intro j hj; simp at hj; subst hj
      have := Nat.eq_of_beq_eq_true hd
      simp [this]
    · rename_i hk
      rw [hk] at hcl
      rw [cls_str hcl] at hu
      obtain ⟨s, rfl, _, hs⟩ := DataW.trod_string hu h
      refine ⟨_, ⟨s, rfl, hs⟩, Reads.one (.lit rfl), ?_⟩
      intro j hj; simp at hj; subst hj
      have := Nat.eq_of_beq_eq_true hd
      simp [this]
    · rename_i e hk
      rw [hk] at hcl
      rw [cls_slice hcl] at hu
      obtain ⟨hd1, hd2⟩ := ble_and hd
      have hsz := Nat.eq_of_beq_eq_true hd1
      split at hd2
      · rename_i ie hie
        obtain ⟨hd3, hd4⟩ := ble_and hd2
        obtain ⟨hd5, hd6⟩ := ble_and hd3
        obtain ⟨fe, de, ve, hTe⟩ := hC.get hie
        have hpos : 0 < ie.size := by have := Nat.le_of_ble_eq_true hd5; omega
        have main : ∃ es : List (List SC), es.length ≤ maxLen ∧ (∀ e' ∈ es, Fit C d e e') ∧ ∃ v', cs = [v'] ∧
            ((es = [] ∧ ∃ a cap, v' = .slice a 0 cap) ∨ (∃ b o cap, v' = .slice (some ⟨b, o, none⟩) es.length cap ∧ es.length ≤ cap ∧ 0 < es.length ∧ (∀ e ∈ es, e.length = ie.size) ∧ (∀ k, k < es.length * ie.size → ∃ v, rd w b (o + k) = some v) ∧
              ∀ (i : Nat) (e : List SC) (j : Nat) (x : SC), es[i]? = some e → e[j]? = some x → Rep (rd w) nomem ((rd w b (o + (i * ie.size + j))).getD undef) x)) := by
          rcases DataW.trod_slice hu h with ⟨rfl, _⟩ | ⟨a, len, cap, elems, rest, n, _, rfl, _, _, hlc, hcm, hel, hget, _⟩
          · exact ⟨[], by simp, by simp, _, rfl, .inl ⟨rfl, none, 0, rfl⟩⟩
          · have hce := cellsOf_eq hTe
            obtain ⟨es, h1, h2, h3⟩ := slice_elems (w := w) (a := a) (len := len) (Q := Fit C d e) hpos (by
              intro i hi
              have := hget i hi
              rw [hce] at this
              have hx : elems[i]? = some elems[i] := by simp [hel, hi]
              rw [hx, Option.bind_eq_some_iff] at this
              obtain ⟨cs', g1, g2⟩ := this
              obtain ⟨xs, x1, x2, _⟩ := ih hd6 g2
              exact ⟨cs', xs, g1, x1, x2⟩)
            refine ⟨es, by omega, h2, _, rfl, ?_⟩
            by_cases h0 : len = 0
            · subst h0
              have : es = [] := List.eq_nil_of_length_eq_zero h1
              exact .inl ⟨this, _, _, rfl⟩
            · obtain ⟨b, o, rfl, q1, q2, q3⟩ := h3 (by omega)
              exact .inr ⟨b, o, cap, by rw [h1], by omega, by omega, q1, by rw [h1]; exact q2, q3⟩
        obtain ⟨es, m1, m2, v', rfl, m3⟩ := main
        have mk : ∀ c : SC, c.isView = true → c.len = es.length → (∀ i e', c.elem i = some e' → es[i]? = some e') → Rep (rd w) nomem v' c := by
          intro c hv hlen helem
          rcases m3 with ⟨rfl, a, cap, rfl⟩ | ⟨b, o, cap, rfl, q0, q1, q2, q3, q4⟩
          · exact .empty a cap hv hlen
          · rw [← hlen]
            refine .view b o cap ie.size (fun k => (rd w b (o + k)).getD undef) hv (by omega) hpos (by omega) (fun i e' he => q2 e' (List.mem_of_getElem? (helem i e' he))) ?_ ?_
            · intro k hk
              rw [hlen] at hk
              obtain ⟨v, hv⟩ := q3 k hk
              simp [hv]
            · intro i e' j x he hx
              exact q4 i e' j x (helem i e' he) hx
        split
        · rename_i hints
          rw [hints] at hd4
          have hs1 := Nat.eq_of_beq_eq_true hd4
          have hcl2 : ie.cls = .int .i64 := by
            unfold Ctx.isInts at hints
            simp only [hie] at hints
            split at hints
            · rename_i he; exact he
            · cases hints
          have hone : ∀ e' ∈ es, ∃ n : Int, e' = [.lit (.int .i64 n)] ∧ (Lit.int .i64 n).wf = true := by
            intro e' he
            have := m2 e' he
            cases d with
            | zero => exact this.elim
            | succ d =>
              unfold Fit at this
              simp only [hie, hcl2] at this
              exact this
          have hl : ∃ l : List Int, es = l.map (fun n => [.lit (.int .i64 n)]) ∧ ∀ n ∈ l, (Lit.int .i64 n).wf = true := by
            clear mk m3 m1 m2
            induction es with
            | nil => exact ⟨[], rfl, by simp⟩
            | cons e' es ih' =>
              obtain ⟨n, rfl, hn⟩ := hone e' List.mem_cons_self
              obtain ⟨l, rfl, hl⟩ := ih' (fun e h => hone e (List.mem_cons_of_mem _ h))
              exact ⟨n :: l, rfl, by intro m hm; rcases List.mem_cons.1 hm with rfl | hm; exact hn; exact hl m hm⟩
          obtain ⟨l, rfl, hl⟩ := hl
          refine ⟨[.ints l], ⟨l, rfl, by simpa using m1, hl⟩, Reads.one (mk (.ints l) rfl (by simp [SC.len]) (by intro i e' he; simpa [SC.elem] using he)), ?_⟩
          intro j hj; simp at hj; subst hj; simp [hsz]
        · refine ⟨[.view es], ⟨es, rfl, m1, m2⟩, Reads.one (mk (.view es) rfl rfl (by intro i e' he; exact he)), ?_⟩
          intro j hj; simp at hj; subst hj; simp [hsz]
      · cases hd2
    · rename_i fs hk
      obtain ⟨hd1, hd2⟩ := ble_and hd
      rw [hk] at hcl
      obtain ⟨gs, rfl, hgs⟩ := cls_struct hcl
      obtain ⟨ys, n, _, _, hlen, hyl, hget⟩ := DataW.trod_struct hu h
      rw [cellsOf_eq hT] at hlen
      obtain ⟨parts, q1, q2, q3⟩ := Reads.parts (m := rd w) (Q := Fit C d) hd1 hlen (by
        intro k o ft hkk j hj
        have hk2 : (gs.toList.map fun f => (f.offset, f.type))[k]? = some (o, ft) := by rw [hgs]; exact hkk
        simp only [List.getElem?_map, Option.map_eq_some_iff] at hk2
        obtain ⟨g, hg1, hg2⟩ := hk2
        simp only [Prod.mk.injEq] at hg2
        obtain ⟨rfl, rfl⟩ := hg2
        have hg1' : gs[k]? = some g := by simpa using hg1
        have := hget k g hg1'
        obtain ⟨fe, de, ve, hTe⟩ := hC.get hj
        rw [cellsOf_eq hTe] at this
        have hklt : k < ys.length := by rw [hyl]; exact (Array.getElem?_eq_some_iff.1 hg1').1
        have hx : ys[k]? = some ys[k] := by simp [hklt]
        rw [hx] at this
        have hdt : dataTy C d g.type = true := by
          have hm : (g.offset, g.type) ∈ fs := List.mem_of_getElem? hkk
          have := List.all_eq_true.1 hd2 _ hm
          simpa using this
        obtain ⟨xs, x1, x2, x3⟩ := ih hdt this
        exact ⟨xs, x1, x3 j hj, x2⟩)
      refine ⟨parts.flatten, ⟨parts, rfl, q2, q3⟩, by simpa using q1, ?_⟩
      intro j hj; simp at hj; subst hj
      have := q1.1
      simp at this
      simp [this, hlen]
    · rename_i n e hk
      rw [hk] at hcl
      rw [cls_array hcl] at hu
      split at hd
      · rename_i ie hie
        obtain ⟨hd1, hd2⟩ := ble_and hd
        have hd1 := Nat.eq_of_beq_eq_true hd1
        obtain ⟨fe, de, ve, hTe⟩ := hC.get hie
        obtain ⟨ys, m, _, _, hlen, hyl, hget⟩ := DataW.trod_array hu h
        rw [cellsOf_eq hT] at hlen
        obtain ⟨parts, q1, q2, q3⟩ := Reads.elems (m := rd w) (Q := Fit C d e) (z := ie.size) (n := n) (cs := cs) (by omega) (by
          intro i hi
          have := hget i hi
          rw [cellsOf_eq hTe] at this
          have hx : ys[i]? = some (ys[i]'(by omega)) := by simp [hyl, hi]
          rw [hx] at this
          obtain ⟨xs, x1, x2, _⟩ := ih hd2 this
          exact ⟨xs, x1, x2⟩)
        refine ⟨parts.flatten, ⟨parts, rfl, q2, q3⟩, q1, ?_⟩
        intro j hj; simp at hj; subst hj
        rw [q1.1]; exact hlen
      · cases hd
    · cases hd
end
def FitV (C : Ctx) (d : Nat) (t : TypeId) (x : SV) : Prop := ∃ i, C.ti t = some i ∧ x.1 = clsAg i.cls ∧ Fit C d t x.2
theorem not_agg {P : Program} {w : World} {r : Reach} {b : Nat} {t : TypeId} {v : Value} {d : TypeDesc} (hu : P.underlying t = some d) (hd : clsAg (clsOf d) = false) (h : Value.okWide P w r b t v) : v.cells = #[v] := by
  cases v with
  | agg cs =>
    unfold Value.okWide Cell.okWide Cell.ok at h
    rw [hu] at h
    cases d <;> simp [clsOf, clsAg] at hd h
  | _ => rfl
theorem fit_one {C : Ctx} {d : Nat} {t : TypeId} {i : TI} {xs : List SC} (hi : C.ti t = some i) (hg : clsAg i.cls = false) (h : Fit C d t xs) : ∃ c, xs = [c] := by
  cases d with
  | zero => exact h.elim
  | succ d =>
    unfold Fit at h
    simp only [hi] at h
    split at h
    · obtain ⟨_, rfl, _⟩ := h; exact ⟨_, rfl⟩
    · obtain ⟨_, rfl⟩ := h; exact ⟨_, rfl⟩
    · obtain ⟨_, rfl, _⟩ := h; exact ⟨_, rfl⟩
    · split at h
      · obtain ⟨_, rfl, _⟩ := h; exact ⟨_, rfl⟩
      · obtain ⟨_, rfl, _⟩ := h; exact ⟨_, rfl⟩
    · rename_i hk; rw [hk] at hg; cases hg
    · rename_i hk; rw [hk] at hg; cases hg
    · exact h.elim
section
variable {H : Type} {enc : TypeId × Value → H} {C : Ctx} {w : World} {spare : Nat → Bool}
theorem arg_fit (hC : C.Ok) {d : Nat} {r : Reach} {b0 : Nat} {t : TypeId} {v : Value} {y : DataW H} {ps : List MemPlace} (hd : dataTy C d t = true) (hval : Value.okWide C.P w r b0 t v) (h : DataW.Trod enc C.P w 0 spare true t v y ps) :
    ∃ x, FitV C d t x ∧ RepB (rd w) (rd w) v x := by
  obtain ⟨fuel, hf⟩ := h
  obtain ⟨xs, h1, h2, h3⟩ := trod_fit hC hd hf
  cases d with
  | zero => simp [dataTy] at hd
  | succ d =>
    have hd' := hd
    unfold dataTy at hd'
    split at hd'
    · cases hd'
    rename_i i hi
    obtain ⟨f, ds, v0, hT⟩ := hC.get hi
    clear hd'
    cases hg : clsAg i.cls with
    | false =>
      have hcells := not_agg hT.und (by rw [hT.cls]; exact hg) hval
      obtain ⟨c, rfl⟩ := fit_one hi hg h1
      refine ⟨(false, [c]), ⟨i, hi, hg.symm, h1⟩, ?_⟩
      refine ⟨c, rfl, ?_⟩
      have := h2.2 0 c rfl
      rw [hcells] at this
      exact Rep.mono (Mem.le_refl _) (nomem_le _) this
    | true =>
      have : ∃ cs, v = .agg cs := by
        unfold Value.okWide at hval
        rw [hT.und] at hval
        rw [← hT.cls] at hg
        cases ds <;> simp [clsOf, clsAg] at hg <;> (obtain ⟨cs, rfl, _⟩ := hval; exact ⟨cs, rfl⟩)
      obtain ⟨cs, rfl⟩ := this
      refine ⟨(true, xs), ⟨i, hi, hg.symm, h1⟩, ?_⟩
      refine ⟨cs, rfl, by simpa [Value.cells] using h2.1.symm, fun k c hk => ?_⟩
      have := h2.2 k c hk
      have := Rep.mono (Mem.le_refl _) (nomem_le (rd w)) this
      simpa [Value.cells, Array.getD_eq_getD_getElem?, List.getD_eq_getElem?_getD] using this
def FitL (C : Ctx) (d : Nat) : List TypeId → List SV → Prop
  | [], [] => True
  | t :: ts, x :: xs => FitV C d t x ∧ FitL C d ts xs
  | _, _ => False
theorem args_fit (hC : C.Ok) {d : Nat} {r : Reach} {b0 : Nat} : ∀ {ts : List TypeId} {vs : List Value} {ys : List (DataW H)} {ps : List MemPlace}, (ts.all (dataTy C d)) = true →
    (∀ (j : Nat) t v, ts[j]? = some t → vs[j]? = some v → Value.okWide C.P w r b0 t v) → DataW.TrodAll enc C.P w 0 spare true ts vs ys ps →
    ys.length = ts.length ∧ vs.length = ts.length ∧ ∃ xs, FitL C d ts xs ∧ xs.length = vs.length ∧ ∀ (k : Nat) (x : SV), xs[k]? = some x → RepB (rd w) (rd w) (vs.getD k undef) x := by
  intro ts
  induction ts with
  | nil =>
    intro vs ys ps _ _ h
    cases vs <;> cases ys <;> simp [DataW.TrodAll] at h
    exact ⟨rfl, rfl, [], trivial, rfl, by intro k x hk; simp at hk⟩
  | cons t ts ih =>
    intro vs ys ps hd hval h
    cases vs with
    | nil => simp [DataW.TrodAll] at h
    | cons v vs =>
      cases ys with
      | nil => simp [DataW.TrodAll] at h
      | cons y ys =>
        obtain ⟨p, q, h1, h2, _⟩ := h
        simp only [List.all_cons, Bool.and_eq_true] at hd
        obtain ⟨x, x1, x2⟩ := arg_fit hC hd.1 (hval 0 t v rfl rfl) h1
        obtain ⟨e1, e2, xs, f1, f2, f3⟩ := ih hd.2 (fun j t' v' a b => hval (j + 1) t' v' (by simpa using a) (by simpa using b)) h2
        refine ⟨by simp [e1], by simp [e2], x :: xs, ⟨x1, f1⟩, by simp [f2], fun k z hk => ?_⟩
        cases k with
        | zero => simp at hk; subst hk; exact x2
        | succ k => simpa using f3 k z (by simpa using hk)
theorem trodAll_later {P : Program} (hl : laidOutB P = true) {W W' : World} (hb : Below W.heap.size W W') : ∀ {ts : List TypeId} {vs : List Value} {ys : List (DataW H)} {ps : List MemPlace}, (ts.all fun t => P.readableRec t && decide (t < P.types.size)) = true →
    DataW.TrodAll enc P W 0 (fun _ => true) true ts vs ys ps → (∀ x ∈ ps, x.block < W.heap.size) → DataW.TrodAll enc P W' 0 (fun b => decide (b < W.heap.size)) true ts vs ys ps := by
  intro ts
  induction ts with
  | nil =>
    intro vs ys ps _ h _
    cases vs <;> cases ys <;> simp [DataW.TrodAll] at h ⊢
    exact h
  | cons t ts ih =>
    intro vs ys ps hd h hlt
    cases vs with
    | nil => simp [DataW.TrodAll] at h
    | cons v vs =>
      cases ys with
      | nil => simp [DataW.TrodAll] at h
      | cons y ys =>
        obtain ⟨p, q, h1, h2, rfl⟩ := h
        simp only [List.all_cons, Bool.and_eq_true, decide_eq_true_eq] at hd
        exact ⟨p, q, Below.trod hl hd.1.1 hd.1.2 h1 hb (fun x hx => hlt x (List.mem_append_left _ hx)), ih (by simpa using hd.2) h2 (fun x hx => hlt x (List.mem_append_right _ hx)), rfl⟩
theorem rep_lit {mv mr : Mem} {v x : Value} (h : Rep mv mr v (.lit x)) : v = x := by
  cases h with
  | lit h => rfl
  | empty a cap hv h0 => cases hv
  | view b o cap z f hv => cases hv
theorem law_calls_gl (hC : C.Ok) {f : FuncId} {fn : Func} {s : ChangeSpec} {d : Nat} {tb : TypeId} (hl : laidOutB C.P = true)
    (hp : (fn.params.toList.all (dataTy C d)) = true) (hp' : (fn.params.toList.all fun t => C.P.readableRec t && decide (t < C.P.types.size)) = true)
    (hr : fn.resultTypes = #[tb]) (hb : C.P.underlying tb = some .bool) (hv : s.vars = [])
    (hs : ∀ ds : List (DataW H), ds.length = fn.params.toList.length → s.fn H (ds ++ []) = { results := [.lit (.bool true)], args := ds })
    (hsat : ∀ xs, FitL C d fn.params.toList xs → Sat C.P C.gl f xs (.one (false, [.lit (.bool true)])))
    {W : World} (hG : GlobOK C.gl (rd W)) {base : Nat} {args : Array Value} {ds gs : List (DataW H)} {before : List MemPlace}
    (hval : ∀ (j : Nat) t v, fn.params[j]? = some t → args[j]? = some v → Value.okWide C.P W .any base t v)
    (hW : DataW.Whole enc C.P fn.params.toList s.vars false W args.toList ds gs before) :
    Calls C.P f args W fun e W' => ∃ v, e = .returned v ∧ s.post enc C.P fn false true false false W args v W' := by
  have hW' := hW
  obtain ⟨p, q, hA, hV, rfl, hfz, hnd⟩ := hW
  rw [hv] at hV
  obtain ⟨rfl, rfl⟩ : gs = [] ∧ q = [] := by
    cases gs with
    | nil => exact ⟨rfl, hV⟩
    | cons g gs => simp [DataW.TrodVars] at hV
  obtain ⟨e1, e2, xs, f1, f2, f3⟩ := args_fit hC hp (fun j t v a b => hval j t v (by simpa using a) (by simpa using b)) hA
  obtain ⟨_, hc⟩ := (hsat xs f1).pure
  refine (hc (rd W) W args (Mem.le_refl _) hG ⟨by simpa using f2.symm, fun k x hk => ?_⟩).mono fun e W' ⟨v, he, hbelow, hrep⟩ => ?_
  · have := f3 k x hk
    simpa [Array.getD_eq_getD_getElem?, List.getD_eq_getElem?_getD] using this
  · obtain ⟨c, h1, h2⟩ := hrep
    simp at h1; subst h1
    obtain rfl := rep_lit h2
    refine ⟨_, he, ds, [], _, [], p, [], hW', ?_, ?_, ?_, Below.frame hbelow _, fun h => by cases h⟩
    · rw [hs ds e1, hr]
      exact trodAll_mk1 (shut_bool hb _)
    · rw [hs ds e1]
      exact trodAll_later hl hbelow hp' hA (fun x hx => by simpa using hW'.lt x (List.mem_append_left _ hx))
    · rw [hs ds e1, hv]; rfl
end
theorem fitL0 {C : Ctx} {d : Nat} {xs : List SV} (h : FitL C d [] xs) : xs = [] := by
  cases xs with
  | nil => rfl
  | cons x xs => exact h.elim
theorem fitLc {C : Ctx} {d : Nat} {t : TypeId} {ts : List TypeId} {xs : List SV} (h : FitL C d (t :: ts) xs) : ∃ x ys, xs = x :: ys ∧ FitV C d t x ∧ FitL C d ts ys := by
  cases xs with
  | nil => exact h.elim
  | cons x xs => exact ⟨x, xs, rfl, h⟩
theorem fitL1 {C : Ctx} {d : Nat} {t : TypeId} {xs : List SV} (h : FitL C d [t] xs) : ∃ x, xs = [x] ∧ FitV C d t x := by
  obtain ⟨x, ys, rfl, h1, h2⟩ := fitLc h
  obtain rfl := fitL0 h2
  exact ⟨x, rfl, h1⟩
theorem fitL2 {C : Ctx} {d : Nat} {t u : TypeId} {xs : List SV} (h : FitL C d [t, u] xs) : ∃ x y, xs = [x, y] ∧ FitV C d t x ∧ FitV C d u y := by
  obtain ⟨x, ys, rfl, h1, h2⟩ := fitLc h
  obtain ⟨y, rfl, h3⟩ := fitL1 h2
  exact ⟨x, y, rfl, h1, h3⟩
section
variable {C : Ctx} {d : Nat} {t e : TypeId} {i : TI} {xs : List SC}
theorem fit_int {k : IntKind} (hi : C.ti t = some i) (hk : i.cls = .int k) (h : Fit C (d + 1) t xs) : ∃ n, xs = [.lit (.int k n)] ∧ (Lit.int k n).wf = true := by
  unfold Fit at h; simp only [hi, hk] at h; exact h
theorem fit_i64 (hi : C.ti t = some i) (hk : i.cls = .int .i64) (h : Fit C (d + 1) t xs) : ∃ n : Int, xs = [.lit (.int .i64 n)] ∧ -9223372036854775808 ≤ n ∧ n ≤ 9223372036854775807 := by
  obtain ⟨n, h1, h2⟩ := fit_int hi hk h
  exact ⟨n, h1, bounds_i64 h2⟩
theorem fit_str (hi : C.ti t = some i) (hk : i.cls = .str) (h : Fit C (d + 1) t xs) : ∃ s : ByteArray, xs = [.lit (.string s)] ∧ s.size ≤ maxLen := by
  unfold Fit at h; simp only [hi, hk] at h; exact h
theorem fit_view (hi : C.ti t = some i) (hk : i.cls = .slice e) (he : C.isInts e = false) (h : Fit C (d + 1) t xs) : ∃ es : List (List SC), xs = [.view es] ∧ es.length ≤ maxLen ∧ ∀ e' ∈ es, Fit C d e e' := by
  unfold Fit at h; simp only [hi, hk, he] at h; exact h
def FitFs (C : Ctx) (d : Nat) : List (Nat × TypeId) → List SC → Prop
  | [], xs => xs = []
  | (_, ft) :: r, xs => ∃ p q, xs = p ++ q ∧ Fit C d ft p ∧ FitFs C d r q
theorem fitFs_of : ∀ {fs : List (Nat × TypeId)} {parts : List (List SC)}, parts.length = fs.length → (∀ (k o : Nat) (ft : TypeId), fs[k]? = some (o, ft) → ∃ p, parts[k]? = some p ∧ Fit C d ft p) → FitFs C d fs parts.flatten
  | [], [], _, _ => rfl
  | (o, ft) :: fs, p :: parts, hl, h => by
    obtain ⟨p', h1, h2⟩ := h 0 o ft rfl
    simp at h1; subst h1
    exact ⟨p, parts.flatten, rfl, h2, fitFs_of (by simpa using hl) fun k o' ft' hk => h (k + 1) o' ft' (by simpa using hk)⟩
  | [], _ :: _, hl, _ => by simp at hl
  | _ :: _, [], hl, _ => by simp at hl
theorem fit_struct {fs : List (Nat × TypeId)} (hi : C.ti t = some i) (hk : i.cls = .struct fs) (h : Fit C (d + 1) t xs) : FitFs C d fs xs := by
  unfold Fit at h; simp only [hi, hk] at h
  obtain ⟨parts, rfl, h1, h2⟩ := h
  exact fitFs_of h1 h2
theorem fitV_one {x : SV} (hi : C.ti t = some i) (hg : clsAg i.cls = false) (h : FitV C d t x) : x = (false, x.2) ∧ Fit C d t x.2 := by
  obtain ⟨j, h1, h2, h3⟩ := h
  rw [hi] at h1; cases h1
  obtain ⟨g, cs⟩ := x
  simp only at h2; subst h2
  rw [hg]; exact ⟨rfl, h3⟩
theorem fitV_agg {x : SV} (hi : C.ti t = some i) (hg : clsAg i.cls = true) (h : FitV C d t x) : x = (true, x.2) ∧ Fit C d t x.2 := by
  obtain ⟨j, h1, h2, h3⟩ := h
  rw [hi] at h1; cases h1
  obtain ⟨g, cs⟩ := x
  simp only at h2; subst h2
  rw [hg]; exact ⟨rfl, h3⟩
end
end Go.Fw
namespace Go.Fw
open Go.IntWalk
class NatOf (z : Int) (n : outParam Nat) : Prop where
  eq : z = (n : Int)
instance natOf_cast (n : Nat) : NatOf (n : Int) n := ⟨rfl⟩
instance natOf_0 : NatOf 0 0 := ⟨rfl⟩
instance natOf_1 : NatOf 1 1 := ⟨rfl⟩
instance natOf_2 : NatOf 2 2 := ⟨rfl⟩
instance natOf_3 : NatOf 3 3 := ⟨rfl⟩
instance natOf_add (a b : Int) (m n : Nat) [h : NatOf a m] [k : NatOf b n] : NatOf (a + b) (m + n) := ⟨by rw [h.eq, k.eq]; simp⟩
instance natOf_mul (a b : Int) (m n : Nat) [h : NatOf a m] [k : NatOf b n] : NatOf (a * b) (m * n) := ⟨by rw [h.eq, k.eq]; simp⟩
class BP (b : Bool) (p : outParam Prop) : Prop where
  iff : b = true ↔ p
instance (priority := low) bp_any (b : Bool) : BP b (b = true) := ⟨Iff.rfl⟩
instance bp_dec (p : Prop) [Decidable p] : BP (decide p) p := ⟨decide_eq_true_iff⟩
instance bp_eqi (a b : Int) : BP (a == b) (a = b) := ⟨beq_iff_eq⟩
instance bp_nei (a b : Int) : BP (a != b) (a ≠ b) := ⟨bne_iff_ne⟩
instance bp_not (b : Bool) (p : Prop) [h : BP b p] : BP (!b) (¬ p) := ⟨by rw [← h.iff]; cases b <;> simp⟩
instance bp_and (a b : Bool) (p q : Prop) [h : BP a p] [k : BP b q] : BP (a && b) (p ∧ q) := ⟨by rw [← h.iff, ← k.iff]; simp⟩
instance (priority := high) bp_and_true (b : Bool) (p : Prop) [h : BP b p] : BP (b && true) p := ⟨by rw [← h.iff]; simp⟩
instance bp_or (a b : Bool) (p q : Prop) [h : BP a p] [k : BP b q] : BP (a || b) (p ∨ q) := ⟨by rw [← h.iff, ← k.iff]; simp⟩
theorem BP.no {b : Bool} {p : Prop} (h : BP b p) (e : b = false) : ¬ p := fun hp => by rw [h.iff.2 hp] at e; cases e
theorem BP.yes {b : Bool} {p : Prop} (h : BP b p) (e : b = true) : p := h.iff.1 e
theorem BP.eq_true {b : Bool} {p : Prop} (h : BP b p) (hp : p) : b = true := h.iff.2 hp
theorem BP.eq_false {b : Bool} {p : Prop} (h : BP b p) (hp : ¬ p) : b = false := by
  cases e : b
  · rfl
  · exact absurd (h.iff.1 e) hp
theorem brp {b : Bool} {p X Y : Prop} [i : BP b p] (h : p → X) (h' : ¬ p → Y) : Brn b X Y := br_intro (fun e => h (i.yes e)) fun e => h' (i.no e)
theorem bPt {b : Bool} {p X Y : Prop} [i : BP b p] (hp : p) (h : X) : Brn b X Y := by rw [i.eq_true hp]; exact bT h
theorem bPf {b : Bool} {p X Y : Prop} [i : BP b p] (hp : ¬ p) (h : Y) : Brn b X Y := by rw [i.eq_false hp]; exact bF h
section
variable {C : Ctx} {all : List Oper} {n0 i fid : Nat} {o : Oper} {rest : List Oper} {E : Env} {H : Hp} {t : Trace} {K : Env → Hp → Nat → Trace → Prop} {k : Env → Hp → Trace → Prop}
theorem opsA_ifp {g j : Nat} {b : Bool} {p : Prop} [w : BP b p] (hg : o.guard = some (j, true)) (hd : dstAt all j = some g) (hv : E.get g = some (.val (false, [.st (.lit (.bool b))])))
    (h : p → RunO C (2 * (n0 + i)) o ((g, some (blit true)) :: E) H t fun E' H' t' => OpsA C all n0 rest (i + 1) E' H' t' K)
    (h' : ¬ p → skipO o ((g, some (blit false)) :: E) H t fun E' H' t' => OpsA C all n0 rest (i + 1) E' H' t' K) : OpsA C all n0 (o :: rest) i E H t K :=
  opsA_if hg hd hv (fun e => h (w.yes e)) fun e => h' (w.no e)
theorem opsA_unlessp {g j : Nat} {b : Bool} {p : Prop} [w : BP b p] (hg : o.guard = some (j, false)) (hd : dstAt all j = some g) (hv : E.get g = some (.val (false, [.st (.lit (.bool b))])))
    (h : p → skipO o ((g, some (blit true)) :: E) H t fun E' H' t' => OpsA C all n0 rest (i + 1) E' H' t' K)
    (h' : ¬ p → RunO C (2 * (n0 + i)) o ((g, some (blit false)) :: E) H t fun E' H' t' => OpsA C all n0 rest (i + 1) E' H' t' K) : OpsA C all n0 (o :: rest) i E H t K :=
  opsA_unless hg hd hv (fun e => h (w.yes e)) fun e => h' (w.no e)
theorem oIt {g j : Nat} {b : Bool} {p : Prop} [w : BP b p] (hg : o.guard = some (j, true)) (hd : dstAt all j = some g) (hv : E.get g = some (.val (false, [.st (.lit (.bool b))]))) (hp : p)
    (h : RunO C (2 * (n0 + i)) o ((g, some (blit true)) :: E) H t fun E' H' t' => OpsA C all n0 rest (i + 1) E' H' t' K) : OpsA C all n0 (o :: rest) i E H t K :=
  opsA_ifp hg hd hv (fun _ => h) fun n => absurd hp n
theorem oIf {g j : Nat} {b : Bool} {p : Prop} [w : BP b p] (hg : o.guard = some (j, true)) (hd : dstAt all j = some g) (hv : E.get g = some (.val (false, [.st (.lit (.bool b))]))) (hp : ¬ p)
    (h : skipO o ((g, some (blit false)) :: E) H t fun E' H' t' => OpsA C all n0 rest (i + 1) E' H' t' K) : OpsA C all n0 (o :: rest) i E H t K :=
  opsA_ifp hg hd hv (fun y => absurd y hp) fun _ => h
theorem oUt {g j : Nat} {b : Bool} {p : Prop} [w : BP b p] (hg : o.guard = some (j, false)) (hd : dstAt all j = some g) (hv : E.get g = some (.val (false, [.st (.lit (.bool b))]))) (hp : p)
    (h : skipO o ((g, some (blit true)) :: E) H t fun E' H' t' => OpsA C all n0 rest (i + 1) E' H' t' K) : OpsA C all n0 (o :: rest) i E H t K :=
  opsA_unlessp hg hd hv (fun _ => h) fun n => absurd hp n
theorem oUf {g j : Nat} {b : Bool} {p : Prop} [w : BP b p] (hg : o.guard = some (j, false)) (hd : dstAt all j = some g) (hv : E.get g = some (.val (false, [.st (.lit (.bool b))]))) (hp : ¬ p)
    (h : RunO C (2 * (n0 + i)) o ((g, some (blit false)) :: E) H t fun E' H' t' => OpsA C all n0 rest (i + 1) E' H' t' K) : OpsA C all n0 (o :: rest) i E H t K :=
  opsA_unlessp hg hd hv (fun y => absurd y hp) fun _ => h
def opK : Op → Nat
  | .binOp .. => 1
  | .unOp .. => 2
  | .load .. => 3
  | .store .. => 4
  | .indexAddr .. => 5
  | .call c => match c.callee with
    | .builtin _ => 6
    | _ => 7
  | .slice .. => 8
  | .makeSlice .. => 8
  | .index .. => 8
  | _ => 0
theorem kO (n : Nat) (_ : opK o.op = n) (g : RunO C fid o E H t k) : RunO C fid o E H t k := g
theorem rP {r : DV} {u : Hp} {R : List Nat} (_ : opK o.op = 0) (h1 : ∀ K : OpK, K r u R → opA C fid o (C.ev E.get) H.get K)
    (h2 : appK u H fun H' => putK o.dst r E fun E' => k E' H' ((R, u.map Prod.fst) :: t)) : RunO C fid o E H t k := rG h1 h2
abbrev lI (n : Int) : Option DV := some (.val (false, [.st (.lit (.int .i64 n))]))
theorem stp {r : DV} (h1 : opA C fid o (C.ev E.get) H.get = fun K => K r [] []) (h2 : putK o.dst r E fun E' => k E' H (([], []) :: t)) : RunO C fid o E H t k :=
  rG (r := r) (u := []) (R := []) (fun K hK => by rw [h1]; exact hK) h2
variable {T : TypeId} {x y : Operand} {p : TypeId} {a b : Int}
theorem opA_bin {op : BinOp} (ho : o.op = .binOp op T x y p) (hx : C.ev E.get x = lI a) (hy : C.ev E.get y = lI b) (hop : op ≠ .shl ∧ op ≠ .shr) : opA C fid o (C.ev E.get) H.get = fun K => intBin op .i64 a b fun v => K (lit v) [] [] := by
  funext K
  unfold opA
  rw [ho]
  simp only [hx, hy, lI, binA]
  unfold litBin
  obtain ⟨h1, h2⟩ := hop
  cases op <;> first | rfl | exact absurd rfl h1 | exact absurd rfl h2
theorem rAdd (ho : o.op = .binOp .add T x y p) (hx : C.ev E.get x = lI a) (hy : C.ev E.get y = lI b) (hb : -9223372036854775808 ≤ a + b ∧ a + b ≤ 9223372036854775807)
    (h2 : putK o.dst (lit (.int .i64 (a + b))) E fun E' => k E' H (([], []) :: t)) : RunO C fid o E H t k :=
  stp (by rw [opA_bin ho hx hy (by decide)]; simp only [intBin]; rw [i64_in _ hb]) h2
theorem rSub (ho : o.op = .binOp .sub T x y p) (hx : C.ev E.get x = lI a) (hy : C.ev E.get y = lI b) (hb : -9223372036854775808 ≤ a - b ∧ a - b ≤ 9223372036854775807)
    (h2 : putK o.dst (lit (.int .i64 (a - b))) E fun E' => k E' H (([], []) :: t)) : RunO C fid o E H t k :=
  stp (by rw [opA_bin ho hx hy (by decide)]; simp only [intBin]; rw [i64_in _ hb]) h2
theorem rMul (ho : o.op = .binOp .mul T x y p) (hx : C.ev E.get x = lI a) (hy : C.ev E.get y = lI b) (hb : -9223372036854775808 ≤ a * b ∧ a * b ≤ 9223372036854775807)
    (h2 : putK o.dst (lit (.int .i64 (a * b))) E fun E' => k E' H (([], []) :: t)) : RunO C fid o E H t k :=
  stp (by rw [opA_bin ho hx hy (by decide)]; simp only [intBin]; rw [i64_in _ hb]) h2
theorem rQuo (ho : o.op = .binOp .quo T x y p) (hx : C.ev E.get x = lI a) (hy : C.ev E.get y = lI b) (hb : (0 ≤ a ∧ a ≤ 9223372036854775807) ∧ 0 < b)
    (h2 : putK o.dst (lit (.int .i64 (a / b))) E fun E' => k E' H (([], []) :: t)) : RunO C fid o E H t k := by
  have e : IntKind.i64.wrap (a.tdiv b) = a / b := by
    rw [Int.tdiv_eq_ediv_of_nonneg hb.1.1]
    have h1 : 0 ≤ a / b := Int.ediv_nonneg hb.1.1 (by omega)
    have h2 : a / b ≤ a := Int.ediv_le_self b hb.1.1
    exact i64_in _ (by omega)
  refine rG (r := lit (.int .i64 (a / b))) (u := []) (R := []) (fun K hK => ?_) h2
  rw [opA_bin ho hx hy (by decide)]
  exact ⟨by omega, by rw [e]; exact hK⟩
theorem rRem (ho : o.op = .binOp .rem T x y p) (hx : C.ev E.get x = lI a) (hy : C.ev E.get y = lI b) (hb : 0 ≤ a ∧ 0 < b)
    (h2 : putK o.dst (lit (.int .i64 (a % b))) E fun E' => k E' H (([], []) :: t)) : RunO C fid o E H t k := by
  refine rG (r := lit (.int .i64 (a % b))) (u := []) (R := []) (fun K hK => ?_) h2
  rw [opA_bin ho hx hy (by decide)]
  exact ⟨by omega, by rw [Int.tmod_eq_emod_of_nonneg hb.1]; exact hK⟩
theorem rQuo' (ho : o.op = .binOp .quo T x y p) (hx : C.ev E.get x = lI a) (hy : C.ev E.get y = lI b) (hb : b ≠ 0)
    (h2 : putK o.dst (lit (.int .i64 (IntKind.i64.wrap (a.tdiv b)))) E fun E' => k E' H (([], []) :: t)) : RunO C fid o E H t k := by
  refine rG (r := lit (.int .i64 (IntKind.i64.wrap (a.tdiv b)))) (u := []) (R := []) (fun K hK => ?_) h2
  rw [opA_bin ho hx hy (by decide)]
  exact ⟨hb, hK⟩
theorem rRem' (ho : o.op = .binOp .rem T x y p) (hx : C.ev E.get x = lI a) (hy : C.ev E.get y = lI b) (hb : b ≠ 0)
    (h2 : putK o.dst (lit (.int .i64 (a.tmod b))) E fun E' => k E' H (([], []) :: t)) : RunO C fid o E H t k := by
  refine rG (r := lit (.int .i64 (a.tmod b))) (u := []) (R := []) (fun K hK => ?_) h2
  rw [opA_bin ho hx hy (by decide)]
  exact ⟨hb, hK⟩
theorem rNeg (ho : o.op = .unOp .neg T x) (hx : C.ev E.get x = lI a) (hb : -9223372036854775808 < a ∧ a ≤ 9223372036854775807)
    (h2 : putK o.dst (lit (.int .i64 (-a))) E fun E' => k E' H (([], []) :: t)) : RunO C fid o E H t k := by
  refine rG (r := lit (.int .i64 (-a))) (u := []) (R := []) (fun K hK => ?_) h2
  have e : IntKind.i64.wrap (0 - a) = -a := by rw [i64_in _ (by omega)]; omega
  unfold opA
  rw [ho]
  simp only [hx, lI, unA]
  rw [e]; exact hK
theorem rIdx {i : TI} {e : TypeId} {ie : TI} {l : List Int} {k' : IntKind} {n : Int} (ho : o.op = .indexAddr T x y) (hx : C.ev E.get x = some (.val (false, [.st (.ints l)]))) (hy : C.ev E.get y = some (.val (false, [.st (.lit (.int k' n))])))
    (hi : C.ti T = some i) (hc : i.cls = .slice e) (he : C.ti e = some ie) (hs : ie.size = 1) (hb : 0 ≤ n ∧ n < (l.length : Int))
    (h2 : putK o.dst (one (.st (.ref [.lit (.int .i64 (l.getD n.toNat 0))]))) E fun E' => k E' H (([], []) :: t)) : RunO C fid o E H t k := by
  refine rG (r := one (.st (.ref [.lit (.int .i64 (l.getD n.toNat 0))]))) (u := []) (R := []) (fun K hK => ?_) h2
  unfold opA
  rw [ho]
  simp only [hx, hy]
  unfold indexAddrA
  simp only [hi, hc, he, SC.isView]
  refine ⟨hb.1, _, ?_, ?_, hK⟩
  · have : n.toNat < l.length := by omega
    simp [SC.elem, this, List.getD_eq_getElem?_getD]
  · simp [hs]
theorem rIdv {i : TI} {e : TypeId} {ie : TI} {l : List (List SC)} {k' : IntKind} {n : Int} (ho : o.op = .indexAddr T x y) (hx : C.ev E.get x = some (.val (false, [.st (.view l)]))) (hy : C.ev E.get y = some (.val (false, [.st (.lit (.int k' n))])))
    (hi : C.ti T = some i) (hc : i.cls = .slice e) (he : C.ti e = some ie) {el : List SC} (hb : 0 ≤ n ∧ l[n.toNat]? = some el) (hs : el.length = ie.size)
    (h2 : putK o.dst (one (.st (.ref el))) E fun E' => k E' H (([], []) :: t)) : RunO C fid o E H t k := by
  refine rG (r := one (.st (.ref el))) (u := []) (R := []) (fun K hK => ?_) h2
  unfold opA
  rw [ho]
  simp only [hx, hy]
  unfold indexAddrA
  simp only [hi, hc, he, SC.isView]
  exact ⟨hb.1, el, hb.2, hs, hK⟩
theorem rIdo {i : TI} {e : TypeId} {ie : TI} {id : Nat} {m : Bool} {z : Nat} {c : SC} {k' : IntKind} {n : Int} (ho : o.op = .indexAddr T x y) (hx : C.ev E.get x = some (.val (false, [.own id]))) (hy : C.ev E.get y = some (.val (false, [.st (.lit (.int k' n))])))
    (hi : C.ti T = some i) (hc : i.cls = .slice e) (he : C.ti e = some ie) (hH : H.get id = some (.row m z c)) (hz : Nat.beq z ie.size = true) (hb : 0 ≤ n ∧ n < (c.len : Int))
    (h2 : putK o.dst (one (.rptr id z n.toNat 0)) E fun E' => k E' H (([id], []) :: t)) : RunO C fid o E H t k := by
  refine rG (r := one (.rptr id z n.toNat 0)) (u := []) (R := [id]) (fun K hK => ?_) h2
  unfold opA
  rw [ho]
  simp only [hx, hy]
  unfold indexAddrA
  simp only [hi, hc, he, hH, hz]
  exact ⟨hb, hK⟩
theorem rLdi {i : TI} {id n : Nat} {m : Bool} {l : List Int} (ho : o.op = .load T x) (hx : C.ev E.get x = some (.val (false, [.rptr id 1 n 0]))) (hi : C.ti T = some i) (hg : clsAg i.cls = false) (hs : i.size = 1)
    (hH : H.get id = some (.row m 1 (.ints l))) (hb : n < l.length)
    (h2 : putK o.dst (lit (.int .i64 (l.getD n 0))) E fun E' => k E' H (([id], []) :: t)) : RunO C fid o E H t k := by
  refine rG (r := lit (.int .i64 (l.getD n 0))) (u := []) (R := [id]) (fun K hK => ?_) h2
  unfold opA
  rw [ho]
  simp only [hx]
  unfold loadA
  simp only [hi, hH, hs, hg]
  refine ⟨[.lit (.int .i64 (l.getD n 0))], ?_, hK⟩
  simp [SC.elem, hb, List.getD_eq_getElem?_getD]
theorem rSti {i : TI} {id n : Nat} {l : List Int} (ho : o.op = .store T x y) (hx : C.ev E.get x = some (.val (false, [.rptr id 1 n 0]))) (hy : C.ev E.get y = lI a) (hi : C.ti T = some i) (hs : i.size = 1)
    (hH : H.get id = some (.row true 1 (.ints l))) (hb : n < l.length)
    (h2 : putK o.dst (.tup []) E fun E' => k E' ((id, some (.row true 1 (.ints (l.set n a)))) :: H) (([id], [id]) :: t)) : RunO C fid o E H t k := by
  refine rG (r := .tup []) (u := [(id, some (.row true 1 (.ints (l.set n a))))]) (R := [id]) (fun K hK => ?_) h2
  unfold opA
  rw [ho]
  simp only [hx, hy]
  unfold storeA
  simp only [hi, hH, hs]
  show ∃ e, _ ∧ _
  refine ⟨[.lit (.int .i64 (l.getD n 0))], ?_, hK⟩
  simp [SC.elem, hb, List.getD_eq_getElem?_getD]
theorem rIdN {i : TI} {e : TypeId} {ie : TI} {l : List Int} {k' : IntKind} {z : Int} {n : Nat} [nz : NatOf z n] (ho : o.op = .indexAddr T x y) (hx : C.ev E.get x = some (.val (false, [.st (.ints l)]))) (hy : C.ev E.get y = some (.val (false, [.st (.lit (.int k' z))])))
    (hi : C.ti T = some i) (hc : i.cls = .slice e) (he : C.ti e = some ie) (hs : ie.size = 1) (hb : n < l.length)
    (h2 : putK o.dst (one (.st (.ref [.lit (.int .i64 (l.getD n 0))]))) E fun E' => k E' H (([], []) :: t)) : RunO C fid o E H t k :=
  by rw [nz.eq] at hy; exact rIdx (n := (n : Int)) ho hx hy hi hc he hs ⟨Int.natCast_nonneg n, by omega⟩ h2
theorem rIdoN {i : TI} {e : TypeId} {ie : TI} {id : Nat} {m : Bool} {z : Nat} {c : SC} {k' : IntKind} {zz : Int} {n : Nat} [nz : NatOf zz n] (ho : o.op = .indexAddr T x y) (hx : C.ev E.get x = some (.val (false, [.own id]))) (hy : C.ev E.get y = some (.val (false, [.st (.lit (.int k' zz))])))
    (hi : C.ti T = some i) (hc : i.cls = .slice e) (he : C.ti e = some ie) (hH : H.get id = some (.row m z c)) (hz : Nat.beq z ie.size = true) (hb : n < c.len)
    (h2 : putK o.dst (one (.rptr id z n 0)) E fun E' => k E' H (([id], []) :: t)) : RunO C fid o E H t k :=
  by rw [nz.eq] at hy; exact rIdo (n := (n : Int)) ho hx hy hi hc he hH hz ⟨Int.natCast_nonneg n, by omega⟩ h2
theorem rIdvN {i : TI} {e : TypeId} {ie : TI} {l : List (List SC)} {k' : IntKind} {z : Int} {n : Nat} [nz : NatOf z n] (ho : o.op = .indexAddr T x y) (hx : C.ev E.get x = some (.val (false, [.st (.view l)]))) (hy : C.ev E.get y = some (.val (false, [.st (.lit (.int k' z))])))
    (hi : C.ti T = some i) (hc : i.cls = .slice e) (he : C.ti e = some ie) {el : List SC} (hb : l[n]? = some el) (hs : el.length = ie.size)
    (h2 : putK o.dst (one (.st (.ref el))) E fun E' => k E' H (([], []) :: t)) : RunO C fid o E H t k :=
  by rw [nz.eq] at hy; exact rIdv (n := (n : Int)) ho hx hy hi hc he ⟨Int.natCast_nonneg n, hb⟩ hs h2
theorem rLdr {i : TI} {c : SC} {cs : List SC} (ho : o.op = .load T x) (hx : C.ev E.get x = some (.val (false, [.st (.ref (c :: cs))]))) (hi : C.ti T = some i) (hg : clsAg i.cls = false) (hs : i.size = 1)
    (h2 : putK o.dst (one (.st c)) E fun E' => k E' H (([], []) :: t)) : RunO C fid o E H t k := by
  refine rG (r := one (.st c)) (u := []) (R := []) (fun K hK => ?_) h2
  unfold opA
  rw [ho]
  simp only [hx]
  unfold loadA
  simp only [hi, hs, hg]
  exact hK
theorem rLdb {i : TI} {id off : Nat} {t' : TypeId} {cs : List DC} {c : DC} (ho : o.op = .load T x) (hx : C.ev E.get x = some (.val (false, [.ptr id off]))) (hi : C.ti T = some i) (hg : clsAg i.cls = false) (hs : i.size = 1)
    (hH : H.get id = some (.box t' cs)) (hc : cs[off]? = some c)
    (h2 : putK o.dst (one c) E fun E' => k E' H (([id], []) :: t)) : RunO C fid o E H t k := by
  refine rG (r := one c) (u := []) (R := [id]) (fun K hK => ?_) h2
  have hlt := (List.getElem?_eq_some_iff.1 hc).1
  have e : (cs.drop off).take 1 = [c] := by
    rw [List.drop_eq_getElem_cons hlt]
    simp [(List.getElem?_eq_some_iff.1 hc).2]
  have hb : Nat.ble (off + 1) cs.length = true := Nat.ble_eq_true_of_le hlt
  unfold opA
  rw [ho]
  simp only [hx]
  unfold loadA
  simp only [hi, hH, hs, hg, hb, e]
  exact hK
theorem rLen {c : Call} {i : TI} {tt : TypeId} {ts : List TypeId} {e : TypeId} {l : List Int} (ho : o.op = .call c) (hc : c.callee = .builtin .len) (ha : c.argTypes.toList = tt :: ts) (hx : (c.args.toList.map (C.ev E.get)) = [some (.val (false, [.st (.ints l)]))])
    (hi : C.ti tt = some i) (hk : i.cls = .slice e) (h2 : putK o.dst (lit (.int .i64 (l.length : Nat))) E fun E' => k E' H (([], []) :: t)) : RunO C fid o E H t k := by
  refine rG (r := lit (.int .i64 (l.length : Nat))) (u := []) (R := []) (fun K hK => ?_) h2
  unfold opA
  rw [ho]
  simp only [hc, ha, hx]
  unfold builtinA
  simp only [hi, hk, SC.isView]
  exact hK
theorem rLenv {c : Call} {i : TI} {tt : TypeId} {ts : List TypeId} {e : TypeId} {l : List (List SC)} (ho : o.op = .call c) (hc : c.callee = .builtin .len) (ha : c.argTypes.toList = tt :: ts) (hx : (c.args.toList.map (C.ev E.get)) = [some (.val (false, [.st (.view l)]))])
    (hi : C.ti tt = some i) (hk : i.cls = .slice e) (h2 : putK o.dst (lit (.int .i64 (l.length : Nat))) E fun E' => k E' H (([], []) :: t)) : RunO C fid o E H t k := by
  refine rG (r := lit (.int .i64 (l.length : Nat))) (u := []) (R := []) (fun K hK => ?_) h2
  unfold opA
  rw [ho]
  simp only [hc, ha, hx]
  unfold builtinA
  simp only [hi, hk, SC.isView]
  exact hK
theorem rLeno {c : Call} {i : TI} {tt : TypeId} {ts : List TypeId} {e : TypeId} {id z : Nat} {m : Bool} {l : List Int} (ho : o.op = .call c) (hc : c.callee = .builtin .len) (ha : c.argTypes.toList = tt :: ts) (hx : (c.args.toList.map (C.ev E.get)) = [some (.val (false, [.own id]))])
    (hi : C.ti tt = some i) (hk : i.cls = .slice e) (hH : H.get id = some (.row m z (.ints l))) (h2 : putK o.dst (lit (.int .i64 (l.length : Nat))) E fun E' => k E' H (([id], []) :: t)) : RunO C fid o E H t k := by
  refine rG (r := lit (.int .i64 (l.length : Nat))) (u := []) (R := [id]) (fun K hK => ?_) h2
  unfold opA
  rw [ho]
  simp only [hc, ha, hx]
  unfold builtinA
  simp only [hi, hk, hH]
  exact hK
theorem rLenov {c : Call} {i : TI} {tt : TypeId} {ts : List TypeId} {e : TypeId} {id z : Nat} {m : Bool} {l : List (List SC)} (ho : o.op = .call c) (hc : c.callee = .builtin .len) (ha : c.argTypes.toList = tt :: ts) (hx : (c.args.toList.map (C.ev E.get)) = [some (.val (false, [.own id]))])
    (hi : C.ti tt = some i) (hk : i.cls = .slice e) (hH : H.get id = some (.row m z (.view l))) (h2 : putK o.dst (lit (.int .i64 (l.length : Nat))) E fun E' => k E' H (([id], []) :: t)) : RunO C fid o E H t k := by
  refine rG (r := lit (.int .i64 (l.length : Nat))) (u := []) (R := [id]) (fun K hK => ?_) h2
  unfold opA
  rw [ho]
  simp only [hc, ha, hx]
  unfold builtinA
  simp only [hi, hk, hH]
  exact hK
theorem rSlH {i : TI} {e : TypeId} {ie : TI} {l : List Int} {k' : IntKind} {n : Int} (ho : o.op = .slice T x none (some y) none) (hx : C.ev E.get x = some (.val (false, [.st (.ints l)]))) (hy : C.ev E.get y = some (.val (false, [.st (.lit (.int k' n))])))
    (hi : C.ti T = some i) (hc : i.cls = .slice e) (he : C.ti e = some ie) (hs : ie.size = 1) (hb : 0 ≤ n ∧ n ≤ (l.length : Int))
    (h2 : putK o.dst (one (.st (.ints (l.take n.toNat)))) E fun E' => k E' H (([], []) :: t)) : RunO C fid o E H t k := by
  refine rG (r := one (.st (.ints (l.take n.toNat)))) (u := []) (R := []) (fun K hK => ?_) h2
  unfold opA
  rw [ho]
  simp only [hx, Option.map]
  unfold sliceA
  simp only [hi, hc, he, stat1L, stat1, hy, SC.isView, bnd, SC.len, SC.uni, SC.sub, List.drop_zero]
  exact ⟨hb.1, ⟨by omega, by omega⟩, hs, hK⟩
theorem rSlL {i : TI} {e : TypeId} {ie : TI} {l : List Int} {k' : IntKind} {n : Int} (ho : o.op = .slice T x (some y) none none) (hx : C.ev E.get x = some (.val (false, [.st (.ints l)]))) (hy : C.ev E.get y = some (.val (false, [.st (.lit (.int k' n))])))
    (hi : C.ti T = some i) (hc : i.cls = .slice e) (he : C.ti e = some ie) (hs : ie.size = 1) (hb : 0 ≤ n ∧ n ≤ (l.length : Int))
    (h2 : putK o.dst (one (.st (.ints (l.drop n.toNat)))) E fun E' => k E' H (([], []) :: t)) : RunO C fid o E H t k := by
  refine rG (r := one (.st (.ints (l.drop n.toNat)))) (u := []) (R := []) (fun K hK => ?_) h2
  unfold opA
  rw [ho]
  simp only [hx, Option.map]
  unfold sliceA
  simp only [hi, hc, he, stat1L, stat1, hy, SC.isView, bnd, SC.len, SC.uni, SC.sub, List.take_length]
  exact ⟨hb.1, ⟨by omega, by omega⟩, hs, hK⟩
end
def pairC : DC → DC → List (Nat × Nat)
  | .ptr a _, .ptr b _ => [(a, b)]
  | .own a, .own b => [(a, b)]
  | .rptr a _ _ _, .rptr b _ _ _ => [(a, b)]
  | _, _ => []
def pairCs : List DC → List DC → List (Nat × Nat)
  | a :: l, b :: l' => pairC a b ++ pairCs l l'
  | _, _ => []
def pairE (E : EF) : Env → List (Nat × Nat)
  | [] => []
  | (k, some (.val (_, cs'))) :: E' => (match E k with
    | some (.val (_, cs)) => pairCs cs cs'
    | _ => []) ++ pairE E E'
  | _ :: E' => pairE E E'
def pairB (H H' : HF) : List (Nat × Nat) → List (Nat × Nat)
  | [] => []
  | (a, b) :: l => (match H a, H' b with
    | some (.box _ cs), some (.box _ cs') => pairCs cs cs'
    | _, _ => []) ++ pairB H H' l
def oldOf (n : Nat) : List (Nat × Nat) → List (Nat × Nat)
  | [] => []
  | (a, b) :: l => match Nat.beq b n with
    | true => [(a, b)]
    | false => oldOf n l
def olds (ps : List (Nat × Nat)) : Hp → List (Nat × Nat)
  | [] => []
  | (n, _) :: H => oldOf n ps ++ olds ps H
def keysE : Env → List Nat
  | [] => []
  | (k, _) :: E => k :: keysE E
def findM (S S' : St) : List (Nat × Nat) :=
  let p := pairE S.env.get S'.env
  let p := p ++ pairB S.hp.get S'.hp.get p
  let p := p ++ pairB S.hp.get S'.hp.get p
  olds p S'.hp
theorem canon_auto {S S' : St} (h : canon (keysE S'.env) (findM S S') S'.nx S = some S') : Sub S S' := canon_sub h
def fs : List Int → Int
  | [] => 0
  | x :: l => if x ≠ 0 then x else fs l
theorem fs_find (l : List Int) : (l.find? (· ≠ 0)).getD 0 = fs l := by
  induction l with
  | nil => rfl
  | cons x l ih => by_cases h : x = 0 <;> simp [fs, h, ← ih]
theorem seal_sub (C : Ctx) {E : Env} {Hh : Hp} {nx : Nat} (id : Nat) {t : TypeId} {cs : List DC} {l : List SC} {u : Hp} {r : List Nat} (hb : Hh.get id = some (.box t cs)) (hst : stat1L Hh.get (C.kinds t) cs = some (l, u, r)) :
    Sub ⟨E, Hh, nx⟩ ⟨E, ((id, some (.fbox l)) :: u) ++ Hh, nx⟩ := by
  rintro F nt a w ⟨N, ⟨q1, q2, q0, β, q3, q4⟩, q5⟩
  have hg : Give C Hh.get ((id, some (.fbox l)) :: u) := by
    intro p hp
    rcases List.mem_cons.1 hp with rfl | hp
    · exact .inr ⟨t, cs, l, u, r, hb, rfl, hst, fun q hq => List.mem_cons_of_mem _ hq⟩
    · exact .inl (stat1L_freeze hst p hp)
  have h1 := hg.soft.tr (F := F) (β := β) (N := N) (w := w)
  have h2 := hg.heap q4
  refine ⟨N, ⟨q1, q2, q0, β, ?_, ?_⟩, q5⟩
  · show EnvRel F β N (Hp.get (((id, some (.fbox l)) :: u) ++ Hh)) w E.get a
    rw [Hp.get_append]; exact h1.env q4 q3
  · show HeapRel F β N (Hp.get (((id, some (.fbox l)) :: u) ++ Hh)) w
    rw [Hp.get_append]; exact h2
theorem awp_seqw {C : Ctx} {x y : Code} {S : St} {kn : St → Prop} {kx : Nat → St → Prop} {kr : St → Prop} (h : Awp C x S (fun S1 => ∃ S2, Sub S1 S2 ∧ Awp C y S2 kn kx kr) kx kr) : Awp C (.seq x y) S kn kx kr := by
  have h' : awp C x S (fun S => ∃ S', Sub S S' ∧ awp C y S' kn kx kr) kx kr := awp_mono h.out (fun _ ⟨S', hs, h⟩ => ⟨S', hs, h.out⟩) (fun _ _ h => h) fun _ h => h
  exact ⟨h'⟩
theorem lnS {l : List Int} {x : Int} (h : l.length < 4294967296) : (SC.ints (l ++ [x])).len ≤ LIM := by simp [SC.len, LIM]; omega
theorem lnN {l : List Int} (h : l.length ≤ 4294967296) : (SC.ints ([] ++ l)).len ≤ LIM := by simp [SC.len, LIM]; omega
theorem lnC {l l' : List Int} (h : l.length + l'.length ≤ 4294967296) : (SC.ints (l ++ l')).len ≤ LIM := by simp [SC.len, LIM]; omega
theorem lvS {l : List (List SC)} {x : List SC} (h : l.length < 4294967296) : (SC.view (l ++ [x])).len ≤ LIM := by simp [SC.len, LIM]; omega
theorem lvN {l : List (List SC)} (h : l.length ≤ 4294967296) : (SC.view ([] ++ l)).len ≤ LIM := by simp [SC.len, LIM]; omega
theorem lvC {l l' : List (List SC)} (h : l.length + l'.length ≤ 4294967296) : (SC.view (l ++ l')).len ≤ LIM := by simp [SC.len, LIM]; omega
theorem uvS {x : List SC} {z : Nat} (h : x.length = z) : (SC.view [x]).uni z := by intro e he; simp at he; subst he; exact h
theorem uvN {x : List SC} {z : Nat} (h : x.length = z) : (SC.view ([] ++ [x])).uni z := by intro e he; simp at he; subst he; exact h
end Go.Fw
namespace Go.Fw
open Go.RowKit (Below)
open Classical
def GRun (C : Ctx) (f : FuncId) (nx : Nat) (xs : List DX) (Hs : Hp) (roots : List Nat) (r : DV) (Hs' : Hp) : Prop :=
  fnOk C.P f = true ∧ ∀ (F : Fix) (β : Nat → Option Nat) (N : Nat → Prop) (w : World) (vs : Array Value), Globs C F → F.w0 = w → (∀ b, F.own b → live β Hs.get b) → HeapRel F β N Hs.get w → (∀ id, N id → tag id < nx) →
    vs.size = xs.length → (∀ k x, xs[k]? = some x → RepDX F β N Hs.get w (vs.getD k undef) x) →
    Calls C.P f vs w fun e w' => ∃ v β' N', e = .returned v ∧ HeapRel F β' N' Hs'.get w' ∧ RepDV F β' N' Hs'.get w' v r ∧ ∀ id ∈ roots, ∃ b, β id = some b ∧ β' id = some b
def DC.ment (ok : Nat → Prop) : DC → Prop
  | .ptr id _ => ok id
  | .own id => ok id
  | .rptr id _ _ _ => ok id
  | .mp id => ok id
  | .clo _ id => ok id
  | _ => True
def mentX (ok : Nat → Prop) (x : DX) : Prop := ∀ d ∈ x.2, d.ment ok
def mentV (ok : Nat → Prop) : DV → Prop
  | .val x => mentX ok x
  | .tup l => ∀ x ∈ l, mentX ok x
def Blk.ment (ok : Nat → Prop) : Blk → Prop
  | .box _ cs => ∀ d ∈ cs, d.ment ok
  | .rowD _ l => ∀ e ∈ l, ∀ d ∈ e, d.ment ok
  | _ => True
def backHp (Hs Hs' : Hp) : Hp := Hs' ++ Hs.map fun p => (p.1, none)
theorem Hp.get_none {H : Hp} {id : Nat} (h : id ∉ H.map Prod.fst) : H.get id = none := by
  induction H with
  | nil => rfl
  | cons p H ih =>
    obtain ⟨j, b⟩ := p
    simp only [List.map_cons, List.mem_cons, not_or] at h
    rw [Hp.get_cons, updH_ne _ _ _ h.1]; exact ih h.2
theorem Hp.get_key {H : Hp} {id : Nat} {b : Blk} (h : H.get id = some b) : id ∈ H.map Prod.fst := by
  by_cases hm : id ∈ H.map Prod.fst
  · exact hm
  · rw [Hp.get_none hm] at h; cases h
theorem on_key (H : Hp) (K : HF) (id : Nat) : H.on K id = if id ∈ H.map Prod.fst then H.get id else K id := by
  induction H with
  | nil => rfl
  | cons p H ih =>
    obtain ⟨j, b⟩ := p
    show updH _ _ _ id = _
    rw [Hp.get_cons]
    by_cases h : id = j
    · subst h; rw [updH_same, updH_same]; simp
    · rw [updH_ne _ _ _ h, updH_ne _ _ _ h, ih]
      simp [h]
theorem on_dead (H : Hp) (K : HF) (id : Nat) : Hp.on (H.map fun p => (p.1, (none : Option Blk))) K id = if id ∈ H.map Prod.fst then none else K id := by
  rw [on_key]
  have e : (H.map fun p => (p.1, (none : Option Blk))).map Prod.fst = H.map Prod.fst := by simp [Function.comp_def]
  rw [e]
  by_cases h : id ∈ H.map Prod.fst
  · rw [if_pos h, if_pos h]
    cases hg : Hp.get (H.map fun p => (p.1, (none : Option Blk))) id with
    | none => rfl
    | some b =>
      exfalso
      have : ∀ {H : Hp}, Hp.get (H.map fun p => (p.1, (none : Option Blk))) id ≠ some b := by
        intro H
        induction H with
        | nil => simp [Hp.get]
        | cons p H ih =>
          intro h
          rw [List.map_cons, Hp.get_cons] at h
          by_cases hj : id = p.1
          · rw [hj, updH_same] at h; cases h
          · rw [updH_ne _ _ _ hj] at h; exact ih h
      exact this hg
  · rw [if_neg h, if_neg h]
theorem back_get (Hs Hs' : Hp) (H : HF) (id : Nat) : (backHp Hs Hs').on H id = if id ∈ Hs'.map Prod.fst then Hs'.get id else if id ∈ Hs.map Prod.fst then none else H id := by
  unfold backHp
  rw [Hp.on_append, on_key]
  by_cases h : id ∈ Hs'.map Prod.fst
  · rw [if_pos h, if_pos h]
  · rw [if_neg h, if_neg h, on_dead]
section
variable {C : Ctx} {F : Fix} {β β' : Nat → Option Nat} {N N' : Nat → Prop} {H : HF} {w w' : World} {Hs Hs' : Hp} {fid : Nat}
noncomputable def Fix.hand (F : Fix) (β : Nat → Option Nat) (H : HF) (Hs : Hp) (w : World) : Fix := ⟨w, MV F β H w, live β Hs.get, [], w.heap.size, MR F β H w⟩
theorem hand_globs (hG : Globs C F) (hR : HeapRel F β N H w) (hs : ∀ id b, Hs.get id = some b → H id = some b) : Globs C (F.hand β H Hs w) := by
  refine ⟨GlobOK.later hG hR, fun b o v e => MV_rd hG hR e, fun g cs hm hpos hl => ?_, GlobOK.mr hG, MR_rd0 hG hR, MV_le_MR hG hR⟩
  obtain ⟨v, e1, _⟩ := (hG.ok g cs hm).1 0 cs[0] (by simp [hpos])
  obtain ⟨id, blk, e, hb⟩ := hl
  exact not_mine e1 (hG.nown g cs hm hpos) (live_mine hR ⟨id, blk, hs id blk e, hb⟩).2
theorem hand_mine (hR : HeapRel F β N H w) (hs : ∀ id b, Hs.get id = some b → H id = some b) {b : Nat} (h : (F.hand β H Hs w).mine b) : F.mine b := by
  rcases h with h | h
  · exact .inl (Nat.le_trans hR.below.size h)
  · obtain ⟨id, blk, e, hb⟩ := h
    exact (live_mine hR ⟨id, blk, hs id blk e, hb⟩).2
theorem hand_mv (hR : HeapRel F β N H w) (hs : ∀ id b, Hs.get id = some b → H id = some b) : (MV F β H w).le (MV (F.hand β H Hs w) β Hs.get w) := by
  intro b o v e
  unfold MV
  by_cases h1 : (F.hand β H Hs w).mine b
  · rw [if_pos h1]
    have h2 := hand_mine hR hs h1
    unfold MV at e
    rw [if_pos h2] at e
    split at e
    · rename_i hst
      have hst' : stable β Hs.get b o := fun id blk e' hb => hst id blk (hs id blk e') hb
      rw [if_pos hst']; exact e
    · cases e
  · rw [if_neg h1]; exact e
theorem hand_mr (_hG : Globs C F) (hR : HeapRel F β N H w) (hs : ∀ id b, Hs.get id = some b → H id = some b) : (MR F β H w).le (MR (F.hand β H Hs w) β Hs.get w) := by
  intro b o v e
  unfold MR
  by_cases h1 : (F.hand β H Hs w).mine b
  · rw [if_pos h1]
    have h2 := hand_mine hR hs h1
    unfold MR at e
    rw [if_pos h2] at e
    exact hand_mv hR hs b o v e
  · rw [if_neg h1]; exact e
theorem hand_repD (hG : Globs C F) (hR : HeapRel F β N H w) (hs : ∀ id b, Hs.get id = some b → H id = some b) {v : Value} {d : DC} (h : RepD F β N H w v d) : RepD (F.hand β H Hs w) β N Hs.get w v d := by
  cases d with
  | st c => exact Rep.mono (hand_mv hR hs) (hand_mr hG hR hs) h
  | nil => exact h
  | ptr id off => exact h
  | own id => exact ⟨h.1, h.2.1, fun blk z n e hz => h.2.2 blk z n (hs id blk e) hz⟩
  | rptr id z i off => exact h
  | clo g id => exact h
  | mp id => exact h
theorem hand_repDX (hG : Globs C F) (hR : HeapRel F β N H w) (hs : ∀ id b, Hs.get id = some b → H id = some b) {v : Value} {x : DX} (h : RepDX F β N H w v x) : RepDX (F.hand β H Hs w) β N Hs.get w v x := by
  unfold RepDX at *
  split
  · rename_i hx; rw [if_pos hx] at h
    obtain ⟨arr, h1, h2, h3⟩ := h
    exact ⟨arr, h1, h2, fun k c hc => hand_repD hG hR hs (h3 k c hc)⟩
  · rename_i hx; rw [if_neg hx] at h
    obtain ⟨c, h1, h2⟩ := h
    exact ⟨c, h1, hand_repD hG hR hs h2⟩
theorem hand_heap (hG : Globs C F) (hR : HeapRel F β N H w) (hs : ∀ id b, Hs.get id = some b → H id = some b) : HeapRel (F.hand β H Hs w) β N Hs.get w := by
  have mv := hand_mv hR hs (Hs := Hs)
  have mr := hand_mr hG hR hs (Hs := Hs)
  refine ⟨fun id blk e => ⟨(hR.rel id blk (hs id blk e)).1, ?_⟩, fun i j b x y hi hj => hR.inj i j b x y (hs i x hi) (hs j y hj), Keep.refl _ _, fun b o v e => ⟨MV_rd hG hR e, fun hm => ?_⟩⟩
  · obtain ⟨_, hB⟩ := hR.rel id blk (hs id blk e)
    have hm : ∀ {b : Nat}, β id = some b → (F.hand β H Hs w).mine b := fun hb => .inr ⟨id, blk, e, hb⟩
    cases blk with
    | box t cs =>
      obtain ⟨b, arr, T, q1, q2, q3, q4, q5⟩ := hB
      exact ⟨b, arr, T, q1, hm q1, q3, q4, fun k x hx => hand_repD hG hR hs (q5 k x hx)⟩
    | fbox cs =>
      obtain ⟨b, arr, T, q1, q2, q3, q4, q5⟩ := hB
      exact ⟨b, arr, T, q1, hm q1, q3, q4, fun k x hx => (q5 k x hx).mono mv mr⟩
    | row m z c =>
      obtain ⟨q0, q1 | ⟨b, cap, q1, q2, arr, T, p1, p2, p3, p4, p5, p6, p7⟩⟩ := hB
      · exact ⟨q0, .inl q1⟩
      · exact ⟨q0, .inr ⟨b, cap, q1, hm q1, arr, T, p1, p2, p3, p4, p5, p6, fun i e j x he hx => (p7 i e j x he hx).mono mv (Mem.le_refl _)⟩⟩
    | rowD z l =>
      obtain ⟨q0, q1 | ⟨b, cap, arr, T, q1, q2, q3, q4, q5, q6⟩⟩ := hB
      · exact ⟨q0, .inl q1⟩
      · exact ⟨q0, .inr ⟨b, cap, arr, T, q1, hm q1, q3, q4, q5, fun i e k x hi hx => hand_repD hG hR hs (q6 i e k x hi hx)⟩⟩
    | map es =>
      obtain ⟨b, arr, ck, q1, q2, q3, q4, q5⟩ := hB
      exact ⟨b, arr, ck, q1, hm q1, q3, q4, fun i k x e hi he => let ⟨a1, a2⟩ := q5 i k x e hi he; ⟨a1, a2.mono mv mr⟩⟩
  · have h2 := hand_mine hR hs hm
    have e : MV F β H w b o = some v := e
    unfold MV at e
    rw [if_pos h2] at e
    split at e
    · rename_i hst
      exact fun id blk e' hb => hst id blk (hs id blk e') hb
    · cases e
theorem hand_back (hG : Globs C F) (hR : HeapRel F β N H w) (hf : ∀ id, N id → tag id ≠ tag fid) (hs : ∀ id b, Hs.get id = some b → H id = some b) {roots : List Nat}
    (hroot : ∀ id ∈ roots, (∃ t cs, Hs.get id = some (.box t cs)) ∧ ∀ b', Hs'.get id = some b' → ∃ t cs, b' = .box t cs)
    (hkey : ∀ id ∈ Hs'.map Prod.fst, id ∈ roots ∨ tag id = tag fid) (hment : ∀ id b, Hs'.get id = some b → b.ment fun i => i ∈ roots ∨ tag i = tag fid)
    (hR' : HeapRel (F.hand β H Hs w) β' N' Hs'.get w') (hβ : ∀ id ∈ roots, ∃ b, β id = some b ∧ β' id = some b) {v : Value} {r : DV} (hv : RepDV (F.hand β H Hs w) β' N' Hs'.get w' v r) (hmr : mentV (fun i => i ∈ roots ∨ tag i = tag fid) r) :
    ∃ β2, Tr F β N H w β2 (setN N fid) ((backHp Hs Hs').on H) w' ∧ HeapRel F β2 (setN N fid) ((backHp Hs Hs').on H) w' ∧ RepDV F β2 (setN N fid) ((backHp Hs Hs').on H) w' v r := by
  let β2 : Nat → Option Nat := fun id => if tag id = tag fid then β' id else β id
  generalize hH2 : (backHp Hs Hs').on H = H2
  have hget : ∀ id, H2 id = if id ∈ Hs'.map Prod.fst then Hs'.get id else if id ∈ Hs.map Prod.fst then none else H id := fun id => by rw [← hH2, back_get]
  have hN : ∀ {id : Nat} {b : Blk}, H id = some b → N id := fun e => (hR.rel _ _ e).1
  have hok : ∀ id, id ∈ roots ∨ tag id = tag fid → β2 id = β' id ∧ setN N fid id := by
    rintro id (h | h)
    · obtain ⟨⟨t, cs, e⟩, _⟩ := hroot id h
      have hn := hN (hs id _ e)
      obtain ⟨b, e1, e2⟩ := hβ id h
      exact ⟨by show (if tag id = tag fid then β' id else β id) = _; rw [if_neg (hf id hn), e1, e2], .inl hn⟩
    · exact ⟨if_pos h, .inr h⟩
  have hold : ∀ id, N id → β2 id = β id := fun id hn => if_neg (hf id hn)
  have hcase : ∀ {id : Nat} {b : Blk}, H2 id = some b → (Hs'.get id = some b ∧ (id ∈ roots ∨ tag id = tag fid)) ∨ (id ∉ Hs'.map Prod.fst ∧ id ∉ Hs.map Prod.fst ∧ H id = some b) := by
    intro id b e
    rw [hget] at e
    by_cases h1 : id ∈ Hs'.map Prod.fst
    · rw [if_pos h1] at e; exact .inl ⟨e, hkey id h1⟩
    · rw [if_neg h1] at e
      by_cases h2 : id ∈ Hs.map Prod.fst
      · rw [if_pos h2] at e; cases e
      · rw [if_neg h2] at e; exact .inr ⟨h1, h2, e⟩
  have hrest : ∀ {id : Nat} {b : Blk} {x : Nat}, H id = some b → id ∉ Hs.map Prod.fst → β id = some x → ¬ (F.hand β H Hs w).mine x := by
    rintro id b x e hn hb (h | ⟨id', blk', e', hb'⟩)
    · have h1 := (hR.live_lt e hb).1
      have h : w.heap.size ≤ x := h
      omega
    · have := hR.inj id id' x b blk' e (hs id' blk' e') hb hb'
      subst this
      exact hn (Hp.get_key e')
  have hmineG : ∀ {id : Nat} {b : Blk} {x : Nat}, Hs'.get id = some b → β' id = some x → (F.hand β H Hs w).mine x := fun e hb => (hR'.live_lt e hb).2
  have hkeepw : ∀ {b : Nat}, b < w.heap.size → ¬ (F.hand β H Hs w).mine b → w'.heap[b]? = w.heap[b]? := fun h1 h2 => hR'.below.block _ h1 h2
  have hstB : ∀ {b o : Nat}, (F.hand β H Hs w).mine b → stable β' Hs'.get b o → stable β2 H2 b o := by
    intro b o hm hst id blk e hb
    rcases hcase e with ⟨e', h⟩ | ⟨_, h2, e'⟩
    · rw [(hok id h).1] at hb
      exact hst id blk e' hb
    · rw [hold id (hN e')] at hb
      exact absurd hm (hrest e' h2 hb)
  have hmem : ∀ {b o : Nat} {v : Value}, MV F β H w b o = some v → rd w' b o = some v ∧ (F.mine b → stable β2 H2 b o) := by
    intro b o v e
    by_cases h1 : (F.hand β H Hs w).mine b
    · obtain ⟨a1, a2⟩ := hR'.mem0 b o v e
      exact ⟨a1, fun _ => hstB h1 (a2 h1)⟩
    · have hrd := MV_rd hG hR e
      have hlt := World.block_lt_of_cell? _ _ hrd
      refine ⟨(World.cell?_of_block (w := w) (a := ⟨b, o, none⟩) (hkeepw hlt h1)).trans hrd, fun hF => ?_⟩
      unfold MV at e
      rw [if_pos hF] at e
      split at e
      · rename_i hst
        intro id blk e' hb
        rcases hcase e' with ⟨e'', h⟩ | ⟨_, _, e''⟩
        · rw [(hok id h).1] at hb
          exact absurd (hmineG e'' hb) h1
        · rw [hold id (hN e'')] at hb
          exact hst id blk e'' hb
      · cases e
  have mvC : (MV F β H w).le (MV F β2 H2 w') := by
    intro b o v e
    obtain ⟨a1, a2⟩ := hmem e
    unfold MV
    by_cases hF : F.mine b
    · rw [if_pos hF, if_pos (a2 hF)]; exact a1
    · rw [if_neg hF]; unfold MV at e; rw [if_neg hF] at e; exact e
  have mvG : (MV (F.hand β H Hs w) β' Hs'.get w').le (MV F β2 H2 w') := by
    intro b o v e
    by_cases h1 : (F.hand β H Hs w).mine b
    · unfold MV at e
      rw [if_pos h1] at e
      split at e
      · rename_i hst
        unfold MV
        rw [if_pos (hand_mine hR hs h1), if_pos (hstB h1 hst)]; exact e
      · cases e
    · unfold MV at e
      rw [if_neg h1] at e
      exact mvC b o v e
  have mrC : ∀ {b o : Nat} {v : Value}, MR F β H w b o = some v → MR F β2 H2 w' b o = some v := by
    intro b o v e
    unfold MR at e ⊢
    by_cases hF : F.mine b
    · rw [if_pos hF] at e ⊢; exact mvC b o v e
    · rw [if_neg hF] at e ⊢
      exact e
  have mrG : (MR (F.hand β H Hs w) β' Hs'.get w').le (MR F β2 H2 w') := by
    intro b o v e
    by_cases h1 : (F.hand β H Hs w).mine b
    · unfold MR at e ⊢
      rw [if_pos h1] at e
      rw [if_pos (hand_mine hR hs h1)]
      exact mvG b o v e
    · have e2 : MR (F.hand β H Hs w) β' Hs'.get w' b o = (F.hand β H Hs w).mr0 b o := by unfold MR; rw [if_neg h1]
      rw [e2] at e
      exact mrC e
  have hH2root : ∀ {id : Nat} {b : Blk}, (id ∈ roots ∨ tag id = tag fid) → H2 id = some b → Hs'.get id = some b := by
    intro id b h e
    rcases hcase e with ⟨e', _⟩ | ⟨_, h2, e'⟩
    · exact e'
    · rcases h with h | h
      · obtain ⟨⟨t, cs, e0⟩, _⟩ := hroot id h
        exact absurd (Hp.get_key e0) h2
      · exact absurd h (hf id (hN e'))
  have rD : ∀ {v : Value} {d : DC}, RepD (F.hand β H Hs w) β' N' Hs'.get w' v d → d.ment (fun i => i ∈ roots ∨ tag i = tag fid) → RepD F β2 (setN N fid) H2 w' v d := by
    intro v d h hm
    cases d with
    | st c => exact Rep.mono mvG mrG h
    | nil => exact h
    | ptr id off =>
      obtain ⟨_, b, h1, h2⟩ := h
      exact ⟨(hok id hm).2, b, by rw [(hok id hm).1]; exact h1, h2⟩
    | own id =>
      refine ⟨(hok id hm).2, h.2.1, fun blk z n e hz => ?_⟩
      have := h.2.2 blk z n (hH2root hm e) hz
      unfold OwnV at *
      rw [(hok id hm).1]; exact this
    | rptr id z i off =>
      obtain ⟨_, b, h1, h2⟩ := h
      exact ⟨(hok id hm).2, b, by rw [(hok id hm).1]; exact h1, h2⟩
    | clo g id =>
      obtain ⟨_, b, h1, h2⟩ := h
      exact ⟨(hok id hm).2, b, by rw [(hok id hm).1]; exact h1, h2⟩
    | mp id =>
      obtain ⟨_, b, h1, h2⟩ := h
      exact ⟨(hok id hm).2, b, by rw [(hok id hm).1]; exact h1, h2⟩
  have rX : ∀ {v : Value} {x : DX}, RepDX (F.hand β H Hs w) β' N' Hs'.get w' v x → mentX (fun i => i ∈ roots ∨ tag i = tag fid) x → RepDX F β2 (setN N fid) H2 w' v x := by
    intro v x h hm
    unfold RepDX at *
    split
    · rename_i hx; rw [if_pos hx] at h
      obtain ⟨arr, h1, h2, h3⟩ := h
      exact ⟨arr, h1, h2, fun k c hc => rD (h3 k c hc) (hm c (List.mem_of_getElem? hc))⟩
    · rename_i hx; rw [if_neg hx] at h
      obtain ⟨c, h1, h2⟩ := h
      exact ⟨c, h1, rD h2 (hm c (by rw [h1]; exact List.mem_cons_self))⟩
  have hroot2 : ∀ {id : Nat} {b : Blk}, N id → H2 id = some b → b.sz ≠ none → id ∉ Hs'.map Prod.fst ∧ id ∉ Hs.map Prod.fst ∧ H id = some b := by
    intro id b hn e hz
    rcases hcase e with ⟨e', h⟩ | h
    · rcases h with h | h
      · obtain ⟨_, hb⟩ := hroot id h
        obtain ⟨t, cs, rfl⟩ := hb b e'
        exact absurd rfl hz
      · exact absurd h (hf id hn)
    · exact h
  have hkeep : Keep F.mine w w' := hR'.below.mono fun b _ h => hand_mine hR hs h
  have tr : Tr F β N H w β2 (setN N fid) H2 w' := by
    refine ⟨hkeep, fun b o v hb hst e => ?_, fun _ h => .inl h, hold, fun id blk' hn e => ?_, fun id blk' zn b arr T hn e hz hb hm he => ?_, fun k x e => ?_⟩
    · have hmv : MV F β H w b o = some v := by unfold MV; rw [if_pos hb, if_pos hst]; exact e
      obtain ⟨a1, a2⟩ := hmem hmv
      exact ⟨a2 hb, a1⟩
    · rcases hcase e with ⟨e', h⟩ | ⟨_, _, e'⟩
      · rcases h with h | h
        · obtain ⟨⟨t, cs, e0⟩, hb⟩ := hroot id h
          obtain ⟨t', cs', rfl⟩ := hb blk' e'
          exact ⟨_, hs id _ e0, trivial⟩
        · exact absurd h (hf id hn)
      · exact ⟨blk', e', blk'.like_refl⟩
    · obtain ⟨_, h2, e'⟩ := hroot2 hn e (by rw [hz]; simp)
      have hng := hrest e' h2 hb
      exact ⟨arr, by rw [hkeepw (blk_lt he) hng]; exact he, rfl⟩
    · rw [hkeepw (blk_lt e) fun hm => ?_]
      · exact e
      · rcases hm with h | hl
        · have := blk_lt e; have h : w.heap.size ≤ k := h; omega
        · obtain ⟨id, blk, e1, e2⟩ := hl
          rcases live_cells hR ⟨id, blk, hs id blk e1, e2⟩ with ⟨arr, T, h⟩ | ⟨es, ck, h⟩
          · rw [h] at e; cases e
          · rw [h] at e; cases e
  refine ⟨β2, tr, ⟨fun id blk e => ?_, fun i j b x y hi hj bi bj => ?_, hR.below.trans hkeep, tr.mem0 hR.mem0⟩, ?_⟩
  · rcases hcase e with ⟨e', h⟩ | ⟨_, h2, e'⟩
    · obtain ⟨eb, hn⟩ := hok id h
      refine ⟨hn, ?_⟩
      obtain ⟨_, hB⟩ := hR'.rel id blk e'
      have hme := hment id blk e'
      cases blk with
      | box t cs =>
        obtain ⟨b, arr, T, q1, q2, q3, q4, q5⟩ := hB
        exact ⟨b, arr, T, by rw [eb]; exact q1, hand_mine hR hs q2, q3, q4, fun k x hx => rD (q5 k x hx) (hme x (List.mem_of_getElem? hx))⟩
      | fbox cs =>
        obtain ⟨b, arr, T, q1, q2, q3, q4, q5⟩ := hB
        exact ⟨b, arr, T, by rw [eb]; exact q1, hand_mine hR hs q2, q3, q4, fun k x hx => (q5 k x hx).mono mvG mrG⟩
      | row m z c =>
        obtain ⟨q0, q1 | ⟨b, cap, q1, q2, arr, T, p1, p2, p3, p4, p5, p6, p7⟩⟩ := hB
        · exact ⟨q0, .inl ⟨by rw [eb]; exact q1.1, q1.2⟩⟩
        · exact ⟨q0, .inr ⟨b, cap, by rw [eb]; exact q1, hand_mine hR hs q2, arr, T, p1, p2, p3, p4, p5, p6, fun i e j x he hx => (p7 i e j x he hx).mono mvG (Mem.le_refl _)⟩⟩
      | rowD z l =>
        obtain ⟨q0, q1 | ⟨b, cap, arr, T, q1, q2, q3, q4, q5, q6⟩⟩ := hB
        · exact ⟨q0, .inl ⟨by rw [eb]; exact q1.1, q1.2⟩⟩
        · exact ⟨q0, .inr ⟨b, cap, arr, T, by rw [eb]; exact q1, hand_mine hR hs q2, q3, q4, q5, fun i e k x hi hx => rD (q6 i e k x hi hx) (hme e (List.mem_of_getElem? hi) x (List.mem_of_getElem? hx))⟩⟩
      | map es =>
        obtain ⟨b, arr, ck, q1, q2, q3, q4, q5⟩ := hB
        exact ⟨b, arr, ck, by rw [eb]; exact q1, hand_mine hR hs q2, q3, q4, fun i k x e hi he => let ⟨a1, a2⟩ := q5 i k x e hi he; ⟨a1, a2.mono mvG mrG⟩⟩
    · have hn := hN e'
      have eb := hold id hn
      refine ⟨.inl hn, ?_⟩
      obtain ⟨_, hB⟩ := hR.rel id blk e'
      have hw : ∀ {b : Nat}, β id = some b → w'.heap[b]? = w.heap[b]? := fun hb => hkeepw (hR.live_lt e' hb).1 (hrest e' h2 hb)
      have rd0 : ∀ {v : Value} {d : DC}, RepD F β N H w v d → RepD F β2 (setN N fid) H2 w' v d := fun h => tr.repD hR h
      cases blk with
      | box t cs =>
        obtain ⟨b, arr, T, q1, q2, q3, q4, q5⟩ := hB
        exact ⟨b, arr, T, by rw [eb]; exact q1, q2, by rw [hw q1]; exact q3, q4, fun k x hx => rd0 (q5 k x hx)⟩
      | fbox cs =>
        obtain ⟨b, arr, T, q1, q2, q3, q4, q5⟩ := hB
        exact ⟨b, arr, T, by rw [eb]; exact q1, q2, by rw [hw q1]; exact q3, q4, fun k x hx => (q5 k x hx).mono tr.mv tr.mr⟩
      | row m z c =>
        obtain ⟨q0, q1 | ⟨b, cap, q1, q2, arr, T, p1, p2, p3, p4, p5, p6, p7⟩⟩ := hB
        · exact ⟨q0, .inl ⟨by rw [eb]; exact q1.1, q1.2⟩⟩
        · exact ⟨q0, .inr ⟨b, cap, by rw [eb]; exact q1, q2, arr, T, by rw [hw q1]; exact p1, p2, p3, p4, p5, p6, fun i e j x he hx => (p7 i e j x he hx).mono tr.mv (Mem.le_refl _)⟩⟩
      | rowD z l =>
        obtain ⟨q0, q1 | ⟨b, cap, arr, T, q1, q2, q3, q4, q5, q6⟩⟩ := hB
        · exact ⟨q0, .inl ⟨by rw [eb]; exact q1.1, q1.2⟩⟩
        · exact ⟨q0, .inr ⟨b, cap, arr, T, by rw [eb]; exact q1, q2, by rw [hw q1]; exact q3, q4, q5, fun i e k x hi hx => rd0 (q6 i e k x hi hx)⟩⟩
      | map es =>
        obtain ⟨b, arr, ck, q1, q2, q3, q4, q5⟩ := hB
        exact ⟨b, arr, ck, by rw [eb]; exact q1, q2, by rw [hw q1]; exact q3, q4, fun i k x e hi he => let ⟨a1, a2⟩ := q5 i k x e hi he; ⟨a1, a2.mono tr.mv tr.mr⟩⟩
  · rcases hcase hi with ⟨ei, h1⟩ | ⟨_, n1, ei⟩
    · rcases hcase hj with ⟨ej, h2⟩ | ⟨_, n2, ej⟩
      · rw [(hok i h1).1] at bi
        rw [(hok j h2).1] at bj
        exact hR'.inj i j b _ _ ei ej bi bj
      · rw [(hok i h1).1] at bi
        rw [hold j (hN ej)] at bj
        exact absurd (hmineG ei bi) (hrest ej n2 bj)
    · rcases hcase hj with ⟨ej, h2⟩ | ⟨_, n2, ej⟩
      · rw [hold i (hN ei)] at bi
        rw [(hok j h2).1] at bj
        exact absurd (hmineG ej bj) (hrest ei n1 bi)
      · rw [hold i (hN ei)] at bi
        rw [hold j (hN ej)] at bj
        exact hR.inj i j b _ _ ei ej bi bj
  · cases r with
    | val x => exact rX hv hmr
    | tup l =>
      obtain ⟨arr, h1, h2, h3⟩ := hv
      exact ⟨arr, h1, h2, fun k x hk => rX (h3 k x hk) (hmr x (List.mem_of_getElem? hk))⟩
theorem RepD.less {M : Nat → Prop} {v : Value} {d : DC} (h : RepD F β N H w v d) (hm : d.ment M) : RepD F β M H w v d := by
  cases d with
  | st c => exact h
  | nil => exact h
  | ptr id off => exact ⟨hm, h.2⟩
  | own id => exact ⟨hm, h.2⟩
  | rptr id z i off => exact ⟨hm, h.2⟩
  | clo g id => exact ⟨hm, h.2⟩
  | mp id => exact ⟨hm, h.2⟩
theorem RepDX.less {M : Nat → Prop} {v : Value} {x : DX} (h : RepDX F β N H w v x) (hm : mentX M x) : RepDX F β M H w v x := by
  unfold RepDX at *
  split
  · rename_i hx; rw [if_pos hx] at h
    obtain ⟨arr, h1, h2, h3⟩ := h
    exact ⟨arr, h1, h2, fun k c hc => (h3 k c hc).less (hm c (List.mem_of_getElem? hc))⟩
  · rename_i hx; rw [if_neg hx] at h
    obtain ⟨c, h1, h2⟩ := h
    exact ⟨c, h1, h2.less (hm c (by rw [h1]; exact List.mem_cons_self))⟩
theorem BlkRel.less {M : Nat → Prop} {id : Nat} {b : Blk} (h : BlkRel F β N H w id b) (hm : b.ment M) : BlkRel F β M H w id b := by
  cases b with
  | box t cs => obtain ⟨b, arr, T, h1, h2, h3, h4, h5⟩ := h; exact ⟨b, arr, T, h1, h2, h3, h4, fun k x hx => (h5 k x hx).less (hm x (List.mem_of_getElem? hx))⟩
  | fbox cs => exact h
  | row m z c => exact h
  | rowD z l =>
    obtain ⟨q0, q1 | ⟨b, cap, arr, T, q1, q2, q3, q4, q5, q6⟩⟩ := h
    · exact ⟨q0, .inl q1⟩
    · exact ⟨q0, .inr ⟨b, cap, arr, T, q1, q2, q3, q4, q5, fun i e k x hi hx => (q6 i e k x hi hx).less (hm e (List.mem_of_getElem? hi) x (List.mem_of_getElem? hx))⟩⟩
  | map es => exact h
theorem HeapRel.less {M : Nat → Prop} (h : HeapRel F β N H w) (hm : ∀ id b, H id = some b → M id ∧ b.ment M) : HeapRel F β M H w :=
  ⟨fun id b e => ⟨(hm id b e).1, (h.rel id b e).2.less (hm id b e).2⟩, h.inj, h.below, h.mem0⟩
theorem HCall_of_GRun {f : FuncId} {nx : Nat} {xs : List DX} {roots : List Nat} {r : DV} (h : GRun C f nx xs Hs roots r Hs') (hnx : ∀ id ∈ Hs.map Prod.fst, tag id < nx) (hs : ∀ id ∈ Hs.map Prod.fst, Hs.get id = H id)
    (hin : ∀ id b, Hs.get id = some b → b.ment fun i => i ∈ Hs.map Prod.fst) (hxs : ∀ x ∈ xs, mentX (fun i => i ∈ Hs.map Prod.fst) x)
    (hroot : ∀ id ∈ roots, (∃ t cs, Hs.get id = some (.box t cs)) ∧ ∀ b', Hs'.get id = some b' → ∃ t cs, b' = .box t cs)
    (hkey : ∀ id ∈ Hs'.map Prod.fst, id ∈ roots ∨ tag id = tag fid) (hment : ∀ id b, Hs'.get id = some b → b.ment fun i => i ∈ roots ∨ tag i = tag fid) (hmr : mentV (fun i => i ∈ roots ∨ tag i = tag fid) r) :
    HCall C fid f xs H r (backHp Hs Hs') (Hs.map Prod.fst) := by
  refine ⟨h.1, fun F β N H' w vs hRd hG hR hf hsz hargs => ?_⟩
  have hs' : ∀ id b, Hs.get id = some b → H' id = some b := fun id b e => by
    have hk := Hp.get_key e
    rw [hRd id hk, ← hs id hk]; exact e
  have hR1 := hand_heap hG hR hs'
  have hR2 : HeapRel (F.hand β H' Hs w) β (fun i => i ∈ Hs.map Prod.fst) Hs.get w := hR1.less fun id b e => ⟨Hp.get_key e, hin id b e⟩
  have hc := h.2 (F.hand β H' Hs w) β _ w vs (hand_globs hG hR hs') rfl (fun _ h => h) hR2 (fun id hid => hnx id hid) hsz fun k x hx => (hand_repDX hG hR hs' (hargs k x hx)).less (hxs x (List.mem_of_getElem? hx))
  refine hc.mono fun e w' he => ?_
  obtain ⟨v, β', N', rfl, q1, q2, q3⟩ := he
  obtain ⟨β2, a1, a2, a3⟩ := hand_back hG hR hf hs' hroot hkey hment q1 q3 q2 hmr
  exact ⟨v, β2, rfl, a1, a2, a3⟩
end
end Go.Fw
namespace Go.Fw
open Go.RowKit (Below)
open Classical
def entryD : Nat → List DX → Env
  | _, [] => []
  | i, x :: xs => (i, some (.val x)) :: entryD (i + 1) xs
theorem entryD_get {xs : List DX} : ∀ {i s : Nat} {dv : DV}, (entryD i xs).get s = some dv → ∃ k x, s = i + k ∧ xs[k]? = some x ∧ dv = .val x := by
  induction xs with
  | nil => intro i s dv h; simp [entryD, Env.get] at h
  | cons x xs ih =>
    intro i s dv h
    unfold entryD at h
    rw [Env.get_cons] at h
    simp only at h
    by_cases hs : s = i
    · rw [if_pos hs] at h
      simp at h; subst h
      exact ⟨0, x, by omega, rfl, rfl⟩
    · rw [if_neg hs] at h
      obtain ⟨k, y, e, h1, h2⟩ := ih h
      exact ⟨k + 1, y, by omega, by simpa using h1, h2⟩
def packD : List DX → DV
  | [x] => .val x
  | l => .tup l
section
variable {C : Ctx} {fn : Func} {F : Fix} {β : Nat → Option Nat} {N : Nat → Prop} {H : HF} {w : World}
theorem packD_rep {xs : List DX} {vs : List Value} (hl : vs.length = xs.length) (h : ∀ k x, xs[k]? = some x → RepDX F β N H w (vs.getD k undef) x) : RepDV F β N H w (packV vs) (packD xs) := by
  match xs, vs with
  | [], [] => exact ⟨#[], rfl, rfl, by simp⟩
  | [x], [v] => exact h 0 x rfl
  | x :: y :: xs, v :: u :: vs =>
    refine ⟨(v :: u :: vs).toArray, rfl, by simpa using hl, fun k z hk => ?_⟩
    have := h k z hk
    simpa [Array.getD_eq_getD_getElem?, List.getD_eq_getElem?_getD] using this
theorem GRun_of_ret (hC : C.Ok) {f : FuncId} {c : Code} {xs : List DX} {Hs Hs' : Hp} {nx : Nat} {r : DV} {ret : St → Prop} (hn : fnOk C.P f = true) (hf : C.P.funcs[f]? = some fn) (hb : fn.body = some c) (hcode : codeOk fn.ntmps c = true) (hargs : xs.length ≤ fn.ntmps)
    (A : List (Nat × Nat)) (hA : ∀ p ∈ A, ∃ off, xs[p.1]? = some (false, [.ptr p.2 off])) (hfree : codeFree (A.map Prod.fst) c = true)
    (hret : ∀ S, ret S → ∃ m : List (Nat × Nat), RenOk m S.hp.get Hs'.get ∧ (∀ p ∈ A, ∃ o off, S.env.get p.1 = some (.val (false, [.ptr o off])) ∧ (o, p.2) ∈ m) ∧
      resVars C S.hp.get S.env.get fn.results.toList fun ys => ∃ zs, renXs m ys = some zs ∧ packD zs = r)
    (h : Awp C c ⟨entryD 0 xs, Hs, nx⟩ ret (fun _ _ => False) ret) : GRun C f nx xs Hs (A.map Prod.snd) r Hs' := by
  refine ⟨hn, fun F β N w vs hG hw0 hown hR hN hsz hvs => ?_⟩
  let F1 : Fix := { F with fixed := A.map fun p => (p.1, vs.getD p.1 undef), db := w.heap.size }
  have hG1 : Globs C F1 := ⟨hG.ok, hG.mv, hG.nown, hG.rok, hG.rle, hG.mvr⟩
  have hR1 : HeapRel F1 β N Hs.get w := ⟨hR.rel, hR.inj, hR.below, hR.mem0⟩
  have hbase : F1.base = w.heap.size := by show F.w0.heap.size = _; rw [hw0]
  refine (callsIn_wide (n := 0)).1 (callsIn_of_wp_marks hf hb trivial ?_ rfl)
  have hget : ∀ s, s < xs.length → (vs ++ Array.replicate (fn.ntmps - vs.size) undef).getD s undef = vs.getD s undef := fun s hs => by
    simp [Array.getD_eq_getD_getElem?, Array.getElem?_append, hsz, hs]
  have hE : EnvRel F1 β N Hs.get w (entryD 0 xs).get { tmps := vs ++ Array.replicate (fn.ntmps - vs.size) undef, defers := [] } := by
    intro s dv hs
    obtain ⟨k, x, h1, h2, rfl⟩ := entryD_get hs
    rw [Nat.zero_add] at h1
    subst h1
    have hlt : s < xs.length := (List.getElem?_eq_some_iff.1 h2).1
    show RepDX _ _ _ _ _ ((vs ++ Array.replicate (fn.ntmps - vs.size) undef).getD s undef) x
    rw [hget s hlt]
    exact hvs s x h2
  have hfixed : ∀ p ∈ F1.fixed, (vs ++ Array.replicate (fn.ntmps - vs.size) undef).getD p.1 undef = p.2 := by
    intro p hp
    obtain ⟨q, hq, rfl⟩ := List.mem_map.1 hp
    obtain ⟨off, e⟩ := hA q hq
    exact hget _ (List.getElem?_eq_some_iff.1 e).1
  have hrel : Rel F1 fn.ntmps ⟨entryD 0 xs, Hs, nx⟩ { tmps := vs ++ Array.replicate (fn.ntmps - vs.size) undef, defers := [] } w :=
    ⟨N, ⟨by simp; omega, DefersOk.nil _ _, hfixed, β, hE, hR1⟩, hN⟩
  have hend : ∀ S a w', ret S → Rel F1 fn.ntmps S a w' → LeavesInM Fence.wide 0 C.P fn a.tmps (fun e w' => ∃ v β' N', e = .returned v ∧ HeapRel F β' N' Hs'.get w' ∧ RepDV F β' N' Hs'.get w' v r ∧ ∀ id ∈ A.map Prod.snd, ∃ b, β id = some b ∧ β' id = some b) a.defers .returning w' := by
    rintro S a w' hr ⟨N1, ⟨hs, hd, hfx, β1, hE1, hR1⟩, hN1⟩
    obtain ⟨m, hm, han, hr⟩ := hret S hr
    refine leaves_ok (F := F1) (S := S) (β := β1) (N := N1) (by rw [hbase]; exact Nat.le_refl _) (fun w' hB => ?_) a.defers w' ⟨hs, hE1, hR1, hN1⟩ hd
    obtain ⟨ys, ws, β2, N2, ⟨zs, h1, rfl⟩, ht, hR2, h2, h3, h4⟩ := resVars_ok (a := { tmps := a.tmps, defers := [] }) hC hG1 hB.heap hB.env hr
    have hR3 := hm.heapRel hR2
    obtain ⟨e1, e2⟩ := renXs_get h1
    have hv : RepDV F1 (renB m β2) (renN m) Hs'.get w' (packV ws) (packD zs) := by
      refine packD_rep (by rw [h3, e1]) fun k x hk => ?_
      obtain ⟨d, c, d1, d2, rfl⟩ := e2 k x hk
      exact hm.repDX (h4 k d d1) d2
    refine ⟨_, results_run h2, _, renB m β2, renN m, rfl, ⟨hR3.rel, hR3.inj, hR3.below, hR3.mem0⟩, hv, fun id hid => ?_⟩
    obtain ⟨p, hp, rfl⟩ := List.mem_map.1 hid
    obtain ⟨off, e⟩ := hA p hp
    obtain ⟨o, off', e3, e4⟩ := han p hp
    obtain ⟨_, b, q1, q2⟩ : RepD F β N Hs.get w (vs.getD p.1 undef) (.ptr p.2 off) := RepDX.one_inv (hvs p.1 _ e)
    obtain ⟨q3, b', q4, q5⟩ : RepD F1 β1 N1 S.hp.get w' (a.tmps.getD p.1 undef) (.ptr o off') := RepDX.one_inv (hB.env p.1 _ e3)
    have hsame := hfx (p.1, vs.getD p.1 undef) (List.mem_map.2 ⟨p, hp, rfl⟩)
    simp only at hsame
    rw [q5, q2] at hsame
    simp at hsame
    refine ⟨b, q1, ?_⟩
    rw [hm.beta e4, ht.beta o q3, q4, hsame.1]
  refine (wpIn_wide (n := 0)).2 (awp_sound (F := F1) hC hG1 (by rw [hbase]; exact Nat.le_refl _) (by show codeFree ((A.map fun p => (p.1, vs.getD p.1 undef)).map Prod.fst) c = true; rw [List.map_map]; exact hfree) hcode h.out hrel (fun S a w' hret hr => ?_) (fun _ _ _ _ h => h.elim) fun S a w' hret hr => ?_)
  · exact hend S a w' hret hr
  · exact hend S a w' hret hr
end
end Go.Fw
namespace Go.Fw
open Go.RowKit (Below)
inductive Full (H : HF) (R : List Nat) : DC → SC → Prop
  | st (c : SC) : Full H R (.st c) c
  | nil (k : Bool) : Full H R .nil (nilOf k)
  | any (d : DC) : Full H R d .any
  | row {id : Nat} {m : Bool} {z : Nat} {c : SC} (hr : id ∈ R) (h : H id = some (.row m z c)) : Full H R (.own id) c
  | rowD {id z : Nat} {l : List (List DC)} {es : List (List SC)} (hr : id ∈ R) (h : H id = some (.rowD z l)) (hl : es.length = l.length)
      (he : ∀ (i : Nat) (e : List DC) (e' : List SC), l[i]? = some e → es[i]? = some e' → e'.length = e.length)
      (hc : ∀ (i : Nat) (e : List DC) (e' : List SC) (k : Nat) (d : DC) (c : SC), l[i]? = some e → es[i]? = some e' → e[k]? = some d → e'[k]? = some c → Full H R d c)
      (hfl : ∀ (i : Nat) (e' : List SC) (k : Nat) (c : SC), es[i]? = some e' → e'[k]? = some c → c.flat = true) : Full H R (.own id) (.view es)
  | fbox {id off : Nat} {cs : List SC} (hr : id ∈ R) (h : H id = some (.fbox cs)) : Full H R (.ptr id off) (.ref (cs.drop off))
  | box {id off : Nat} {t : TypeId} {ds : List DC} {cs : List SC} (hr : id ∈ R) (h : H id = some (.box t ds)) (hl : cs.length = ds.length) (hc : ∀ (k : Nat) (d : DC) (c : SC), ds[k]? = some d → cs[k]? = some c → Full H R d c) :
      Full H R (.ptr id off) (.ref (cs.drop off))
  | elemD {id z i off : Nat} {l : List (List DC)} {e : List DC} {cs : List SC} (hr : id ∈ R) (h : H id = some (.rowD z l)) (hi : l[i]? = some e) (hl : cs.length = e.length) (hc : ∀ (k : Nat) (d : DC) (c : SC), e[k]? = some d → cs[k]? = some c → Full H R d c) :
      Full H R (.rptr id z i off) (.ref (cs.drop off))
  | elemR {id z i off : Nat} {m : Bool} {c : SC} {e : List SC} (hr : id ∈ R) (h : H id = some (.row m z c)) (hi : c.elem i = some e) : Full H R (.rptr id z i off) (.ref (e.drop off))
  | clo {g id : Nat} {t : TypeId} {ds : List DC} {cs : List SC} (hr : id ∈ R) (h : H id = some (.box t ds)) (hl : cs.length = ds.length) (hc : ∀ (k : Nat) (d : DC) (c : SC), ds[k]? = some d → cs[k]? = some c → Full H R d c) :
      Full H R (.clo g id) (.fn g [] [cs])
def FullX (H : HF) (R : List Nat) (x : DX) (y : SV) : Prop := y.1 = x.1 ∧ y.2.length = x.2.length ∧ ∀ (k : Nat) (d : DC) (c : SC), x.2[k]? = some d → y.2[k]? = some c → Full H R d c
def FullA (H : HF) (R : List Nat) (xs : List DX) (l : List SV) : Prop := l.length = xs.length ∧ ∀ (k : Nat) (x : DX) (y : SV), xs[k]? = some x → l[k]? = some y → FullX H R x y
def memFreeC : SC → Bool
  | .lit _ => true
  | .ref [] => true
  | .view [] => true
  | .ints [] => true
  | _ => false
def memFreeX (x : SV) : Bool := x.2.all memFreeC
def litRow (c : SC) : Prop := ∀ (i : Nat) (e : List SC) (k : Nat) (x : SC), c.elem i = some e → e[k]? = some x → ∃ v, x = .lit v
def memFree : Res → Prop
  | .one x => memFreeX x = true
  | .tup l => ∀ x ∈ l, memFreeX x = true
  | .own _ c => litRow c
  | .mix _ l _ c => litRow c ∧ ∀ x ∈ l, ∀ o ∈ x.2, ∀ c, o = some c → memFreeC c = true
  | .upd _ _ => False
section
variable {C : Ctx} {F : Fix} {β : Nat → Option Nat} {N : Nat → Prop} {H H' : HF} {fid : Nat} {w w' : World} {R : List Nat}
theorem full_rep (hG : Globs C F) (hR : HeapRel F β N H' w) (hH : ∀ id ∈ R, H' id = H id) {d : DC} {c : SC} (hf : Full H R d c) : ∀ {v : Value}, RepD F β N H' w v d → Rep (rd w) (rd w) v c := by
  have hmv : (MV F β H' w).le (rd w) := fun b o v h => MV_rd hG hR h
  have hmr : (MR F β H' w).le (rd w) := MR_rd hG hR
  induction hf with
  | st c => intro v h; exact Rep.mono hmv hmr h
  | nil k => intro v h; have h : v = .slice none 0 0 := h; subst h; exact .empty _ _ (by cases k <;> rfl) (by cases k <;> rfl)
  | any d => intro v h; exact .any h.one_cell
  | @row id m z c hr h =>
    intro v hv
    obtain ⟨hn, h1, h2⟩ := hv
    have hb : H' id = some (.row m z c) := by rw [hH id hr, h]
    obtain ⟨_, ⟨hz, hvw, hel⟩, hrow⟩ := hR.rel id _ hb
    rcases h2 _ _ _ hb rfl with ⟨a1, a2, rfl⟩ | ⟨b, cap, arr, T, a1, rfl, a3, a4⟩
    · exact .empty _ _ hvw a2
    · by_cases h0 : c.len = 0
      · rw [h0]; exact .empty _ _ hvw h0
      rcases hrow with ⟨q, _⟩ | ⟨b', cap', q1, q2, arr', T', e1, e2, e3, e4, e5, e6, e7⟩
      · rw [q] at a1; cases a1
      · rw [a1] at q1; cases q1
        rw [a3] at e1; cases e1
        have hcap : cap = cap' := by rw [a4] at e2; exact Nat.eq_of_mul_eq_mul_right e3 e2
        subst hcap
        refine .view b 0 cap z (fun k => arr.getD k undef) hvw (by omega) hz e5 hel (fun k hk => ?_) fun i e j x he hx => (e7 i e j x he hx).mono hmv (Mem.le_refl _)
        rw [Nat.zero_add]
        refine rd_cells a3 ?_
        rw [a4]
        exact Nat.lt_of_lt_of_le hk (Nat.mul_le_mul_right z e5)
  | @rowD id z l es hr h hl he hc hfl ih =>
    intro v hv
    obtain ⟨hn, h1, h2⟩ := hv
    have hb : H' id = some (.rowD z l) := by rw [hH id hr, h]
    obtain ⟨_, ⟨hz, hel⟩, hrow⟩ := hR.rel id _ hb
    have hlen : (SC.view es).len = l.length := hl
    rcases h2 _ _ _ hb rfl with ⟨a1, a2, rfl⟩ | ⟨b, cap, arr, T, a1, rfl, a3, a4⟩
    · exact .empty _ _ rfl (by rw [hlen, a2])
    · by_cases h0 : l.length = 0
      · rw [h0]; exact .empty _ _ rfl (by rw [hlen, h0])
      rcases hrow with ⟨q, _⟩ | ⟨b', cap', arr', T', q1, q2, e1, e2, e3, e4⟩
      · rw [q] at a1; cases a1
      · rw [a1] at q1; cases q1
        rw [a3] at e1; cases e1
        have hcap : cap = cap' := by rw [a4] at e2; exact Nat.eq_of_mul_eq_mul_right hz e2
        subst hcap
        rw [← hlen]
        have key : ∀ (i : Nat) (e' : List SC), es[i]? = some e' → ∃ e, l[i]? = some e ∧ e'.length = e.length := fun i e' hi => by
          have hlt := (List.getElem?_eq_some_iff.1 hi).1
          have hlt' : i < l.length := by omega
          exact ⟨l[i], by simp [hlt'], he i l[i] e' (by simp [hlt']) hi⟩
        refine .view b 0 cap z (fun k => arr.getD k undef) rfl (by omega) hz (by omega) (fun i e hi => ?_) (fun k hk => ?_) fun i e j x hi hx => ?_
        · obtain ⟨e0, g1, g2⟩ := key i e hi
          rw [g2]; exact hel i e0 g1
        · rw [Nat.zero_add]
          refine rd_cells a3 ?_
          rw [a4]
          exact Nat.lt_of_lt_of_le hk (Nat.mul_le_mul_right z (by omega))
        · obtain ⟨e0, g1, g2⟩ := key i e hi
          have hj := (List.getElem?_eq_some_iff.1 hx).1
          have hj' : j < e0.length := by omega
          have hd : e0[j]? = some e0[j] := by simp [hj']
          exact (ih i e0 e j e0[j] x g1 hi hd hx (e4 i e0 j e0[j] g1 hd)).flat (hfl i e j x hi hx)
  | @fbox id off cs hr h =>
    intro v hv
    obtain ⟨hn, b, hbb, rfl⟩ := hv
    have hb : H' id = some (.fbox cs) := by rw [hH id hr, h]
    obtain ⟨_, b', arr, T, h1, h2, h3, h4, h5⟩ := hR.rel id _ hb
    rw [hbb] at h1; cases h1
    exact ref_cells h3 h4 fun k x hx => (h5 k x hx).mono hmv hmr
  | @box id off t ds cs hr h hl hc ih =>
    intro v hv
    obtain ⟨hn, b, hbb, rfl⟩ := hv
    have hb : H' id = some (.box t ds) := by rw [hH id hr, h]
    obtain ⟨_, b', arr, T, h1, h2, h3, h4, h5⟩ := hR.rel id _ hb
    rw [hbb] at h1; cases h1
    refine ref_cells h3 (by omega) fun k x hx => ?_
    have hk := (List.getElem?_eq_some_iff.1 hx).1
    have hk' : k < ds.length := by omega
    have hd : ds[k]? = some ds[k] := by simp [hk']
    exact ih k ds[k] x hd hx (h5 k ds[k] hd)
  | @clo g id t ds cs hr h hl hc ih =>
    intro v hv
    obtain ⟨hn, b, hbb, rfl⟩ := hv
    have hb : H' id = some (.box t ds) := by rw [hH id hr, h]
    obtain ⟨_, b', arr, T, h1, h2, h3, h4, h5⟩ := hR.rel id _ hb
    rw [hbb] at h1; cases h1
    have href : Rep (rd w) (rd w) (.pointer (some ⟨b, 0, none⟩)) (.ref (cs.drop 0)) := ref_cells h3 (by omega) fun k x hx => by
      have hk := (List.getElem?_eq_some_iff.1 hx).1
      have hk' : k < ds.length := by omega
      have hd : ds[k]? = some ds[k] := by simp [hk']
      exact ih k ds[k] x hd hx (h5 k ds[k] hd)
    refine .fn _ _ (fun _ => #[]) rfl rfl (fun j c hj => by simp at hj) (fun j c hj => by simp at hj) (fun j c hj => by simp at hj) (fun j c k x hj => by simp at hj) fun j c hj => ?_
    cases j with
    | zero => simp at hj; subst hj; exact href
    | succ j => simp at hj
  | @elemD id z i off l e cs hr h hi hl hc ih =>
    intro v hv
    obtain ⟨hn, b, hbb, rfl⟩ := hv
    have hb : H' id = some (.rowD z l) := by rw [hH id hr, h]
    obtain ⟨_, ⟨hz, hel⟩, hrow⟩ := hR.rel id _ hb
    rcases hrow with ⟨q, _⟩ | ⟨b', cap', arr', T', q1, q2, e1, e2, e3, e4⟩
    · rw [hbb] at q; cases q
    · rw [hbb] at q1; cases q1
      have hez : e.length = z := hel i e hi
      have hilt := (List.getElem?_eq_some_iff.1 hi).1
      refine elem_ref (o := i * z) e1 ?_ fun k x hx => ?_
      · rw [e2, hl, hez]
        have : (i + 1) * z ≤ cap' * z := Nat.mul_le_mul_right z (by omega)
        rw [Nat.add_mul, Nat.one_mul] at this; exact this
      · have hk := (List.getElem?_eq_some_iff.1 hx).1
        have hk' : k < e.length := by omega
        have hd : e[k]? = some e[k] := by simp [hk']
        exact ih k e[k] x hd hx (e4 i e k e[k] hi hd)
  | @elemR id z i off m c e hr h hi =>
    intro v hv
    obtain ⟨hn, b, hbb, rfl⟩ := hv
    have hb : H' id = some (.row m z c) := by rw [hH id hr, h]
    obtain ⟨_, ⟨hz, hvw, hel⟩, hrow⟩ := hR.rel id _ hb
    rcases hrow with ⟨q, _⟩ | ⟨b', cap', q1, q2, arr', T', e1, e2, e3, e4, e5, e6, e7⟩
    · rw [hbb] at q; cases q
    · rw [hbb] at q1; cases q1
      have hez : e.length = z := hel i e hi
      have hilt := SC.elem_lt hi
      refine elem_ref (o := i * z) e1 ?_ fun k x hx => (e7 i e k x hi hx).mono hmv (nomem_le _)
      rw [e2, hez]
      have : (i + 1) * z ≤ cap' * z := Nat.mul_le_mul_right z (by omega)
      rw [Nat.add_mul, Nat.one_mul] at this; exact this
theorem fullX_rep (hG : Globs C F) (hR : HeapRel F β N H' w) (hH : ∀ id ∈ R, H' id = H id) {x : DX} {y : SV} (hf : FullX H R x y) {v : Value} (hv : RepDX F β N H' w v x) : RepB (rd w) (rd w) v y := by
  obtain ⟨g, ds⟩ := x
  obtain ⟨g', cs⟩ := y
  obtain ⟨e, hl, hc⟩ := hf
  simp only at e hl hc
  subst e
  cases g'
  · obtain ⟨c, hc0, hr⟩ := hv
    simp only at hc0; subst hc0
    obtain ⟨c', rfl⟩ := List.length_eq_one_iff.1 (by simpa using hl)
    exact ⟨c', rfl, full_rep hG hR hH (hc 0 c c' rfl rfl) hr⟩
  · obtain ⟨arr, h1, h2, h3⟩ := hv
    simp only at h2 h3
    refine ⟨arr, h1, by simp only; omega, fun k c hk => ?_⟩
    simp only at hk
    have hlt := (List.getElem?_eq_some_iff.1 hk).1
    have hlt' : k < ds.length := by omega
    have hd : ds[k]? = some ds[k] := by simp [hlt']
    exact full_rep hG hR hH (hc k ds[k] c hd hk) (h3 k ds[k] hd)
theorem memFreeC_rep {mv mr mv' mr' : Mem} {v : Value} {c : SC} (hm : memFreeC c = true) (h : Rep mv mr v c) : Rep mv' mr' v c := by
  unfold memFreeC at hm
  split at hm
  · cases h with
    | lit h => exact .lit h
    | empty _ _ hv => simp [SC.isView] at hv
    | view _ _ _ _ _ hv => simp [SC.isView] at hv
  · cases h with
    | empty _ _ hv => simp [SC.isView] at hv
    | view _ _ _ _ _ hv => simp [SC.isView] at hv
    | ref b o f hc hr => exact .ref b o f (by simp) (by simp)
  · cases h with
    | empty a cap hv h0 => exact .empty a cap hv h0
    | view _ _ _ _ _ hv hpos => simp [SC.len] at hpos
  · cases h with
    | empty a cap hv h0 => exact .empty a cap hv h0
    | view _ _ _ _ _ hv hpos => simp [SC.len] at hpos
  · cases hm
theorem memFreeX_rep {mv mr mv' mr' : Mem} {v : Value} {x : SV} (hm : memFreeX x = true) (h : RepB mv mr v x) : RepB mv' mr' v x := by
  have hall : ∀ c ∈ x.2, memFreeC c = true := List.all_eq_true.1 hm
  unfold RepB at *
  split
  · rename_i hx; rw [if_pos hx] at h
    obtain ⟨arr, h1, h2, h3⟩ := h
    exact ⟨arr, h1, h2, fun k c hc => memFreeC_rep (hall c (List.mem_of_getElem? hc)) (h3 k c hc)⟩
  · rename_i hx; rw [if_neg hx] at h
    obtain ⟨c, h1, h2⟩ := h
    exact ⟨c, h1, memFreeC_rep (hall c (by rw [h1]; exact List.mem_cons_self)) h2⟩
theorem litRow_rep {mv mv' : Mem} {b z cap : Nat} {c : SC} (hl : litRow c) (h : RowAt w' mv b z c cap) : RowAt w' mv' b z c cap := by
  obtain ⟨arr, T, h1, h2, h3, h4, h5, h6, h7⟩ := h
  refine ⟨arr, T, h1, h2, h3, h4, h5, h6, fun i e j x he hx => ?_⟩
  obtain ⟨v, rfl⟩ := hl i e j x he hx
  exact memFreeC_rep rfl (h7 i e j _ he hx)
theorem memFree_res {mv mv' : Mem} {n : Nat} {v : Value} {r : Res} (hm : memFree r) (h : RepRes mv n w' v r) : RepRes mv' n w' v r := by
  cases r with
  | one x => exact memFreeX_rep hm h
  | tup l =>
    obtain ⟨arr, h1, h2, h3⟩ := h
    exact ⟨arr, h1, h2, fun k x hx => memFreeX_rep (hm x (List.mem_of_getElem? hx)) (h3 k x hx)⟩
  | own z c =>
    rcases h with h | ⟨b, cap, h1, h2, h3⟩
    · exact .inl h
    · exact .inr ⟨b, cap, h1, h2, litRow_rep hm h3⟩
  | mix t l z c =>
    obtain ⟨vo, m, hvo, hr⟩ := h
    have cell : ∀ {m' : Mem} {v : Value} {o : Option SC}, (∀ c, o = some c → memFreeC c = true) → RepC m vo v o → RepC m' vo v o := by
      intro m' v o ho h
      cases o with
      | none => exact h
      | some c => exact memFreeC_rep (ho c rfl) h
    have cellX : ∀ {m' : Mem} {v : Value} {x : Bool × List (Option SC)}, x ∈ l → RepO m vo v x → RepO m' vo v x := by
      intro m' v x hx h
      have ho : ∀ {k : Nat} {o : Option SC}, x.2[k]? = some o → ∀ c, o = some c → memFreeC c = true := fun hk => hm.2 x hx _ (List.mem_of_getElem? hk)
      unfold RepO at *
      split
      · rename_i hg; rw [if_pos hg] at h
        obtain ⟨arr, h1, h2, h3⟩ := h
        exact ⟨arr, h1, h2, fun k c hc => cell (ho hc) (h3 k c hc)⟩
      · rename_i hg; rw [if_neg hg] at h
        obtain ⟨c, h1, h2⟩ := h
        exact ⟨c, h1, cell (ho (k := 0) (by rw [h1]; rfl)) h2⟩
    have tail : ∀ {m' : Mem}, (if t then ∃ arr, v = .tuple arr ∧ arr.size = l.length ∧ ∀ k x, l[k]? = some x → RepO m' vo (arr.getD k undef) x else ∃ x, l = [x] ∧ RepO m' vo v x) := by
      intro m'
      cases t
      · simp only [Bool.false_eq_true, if_false] at hr ⊢
        obtain ⟨x, h1, h2⟩ := hr
        exact ⟨x, h1, cellX (by rw [h1]; exact List.mem_cons_self) h2⟩
      · simp only [if_true] at hr ⊢
        obtain ⟨arr, h1, h2, h3⟩ := hr
        exact ⟨arr, h1, h2, fun k x hx => cellX (List.mem_of_getElem? hx) (h3 k x hx)⟩
    rcases hvo with ⟨a1, a2, a3, a4, a5, _⟩ | ⟨b, cap, a1, a2, a3, _⟩
    · exact ⟨vo, _, .inl ⟨a1, a2, a3, a4, a5, rfl⟩, tail⟩
    · exact ⟨vo, _, .inr ⟨b, cap, a1, a2, litRow_rep hm.1 a3, rfl⟩, tail⟩
  | upd z c => exact hm.elim
theorem HCall_mf {f : FuncId} {xs : List DX} {l : List SV} {r : Res} {rv : DV} {u : Hp} (hx : FullA H R xs l) (hs : Sat C.P C.gl f l r) (hm : memFree r)
    (hk : resK fid [] R (fun a b c => a = rv ∧ b = u ∧ c = R) r) : HCall C fid f xs H rv u R := by
  rcases hs with hs | hs
  · refine ⟨hs.1, fun F β N H' w vs hH hG hR hf hsz hv => ?_⟩
    have hargs : RepL (rd w) (rd w) vs l := by
      refine ⟨by rw [hsz, hx.1], fun k y hk => ?_⟩
      have hlt := (List.getElem?_eq_some_iff.1 hk).1
      have hlt' : k < xs.length := by rw [← hx.1]; exact hlt
      have hd : xs[k]? = some xs[k] := by simp [hlt']
      exact fullX_rep hG hR hH (hx.2 k xs[k] y hd hk) (hv k xs[k] hd)
    refine (hs.2 (rd w) w vs (Mem.le_refl _) (GlobOK.later hG hR) hargs).mono fun e w1 he => ?_
    obtain ⟨v, rfl, hw1, hres⟩ := he
    have hg : Give C H' [] := Give.of_freeze (fun p hp => by cases hp)
    obtain ⟨β', r', u', R', ⟨rfl, rfl, _⟩, q1, q2, q3⟩ := post_res (K := fun a b c => a = rv ∧ b = u ∧ c = R) (u := []) (rs := R) (fid := fid) hR (fun h => hf _ h rfl) hg hw1 (memFree_res (mv' := MV F β H' w) hm hres) hk
    exact ⟨v, β', rfl, q1, q2, q3⟩
  · cases r with
    | upd z c => exact hm.elim
    | _ => exact hs.elim
end
theorem raw_sat {P : Program} {gl : Glob} {f : FuncId} {g z cap : Nat} {cs : List SC} {es : List (List SC)} {rest : List SV} {r : Res} (hs : Sat P gl f ((false, [.view es]) :: rest) r) (hm : memFree r) (hg : (g, cs) ∈ gl) (hz : 0 < z) (hn : 0 < es.length)
    (hcap : es.length ≤ cap) (hlen : ∀ e ∈ es, e.length = z) (hcs : ∀ (i : Nat) (e : List SC) (j : Nat) (x : SC), es[i]? = some e → e[j]? = some x → cs[i * z + j]? = some x) : Sat P gl f ((false, [.raw (.slice (some ⟨g, 0, none⟩) es.length cap)]) :: rest) r := by
  rcases hs with hs | hs
  · refine .inl ⟨hs.1, fun mv w vs hmv hG hv => ?_⟩
    obtain ⟨hsz, hv⟩ := hv
    have hlen' : ∀ (i : Nat) (e : List SC), (SC.view es).elem i = some e → e.length = z := fun i e he => hlen e (List.mem_of_getElem? he)
    have hargs : RepL (rd w) (rd w) vs ((false, [.view es]) :: rest) := by
      refine ⟨hsz, fun k x hk => ?_⟩
      cases k with
      | succ k => exact (hv (k + 1) x (by simpa using hk)).mono hmv (Mem.le_refl _)
      | zero =>
        simp only [List.getElem?_cons_zero, Option.some.injEq] at hk
        subst hk
        obtain ⟨c, hc, hr⟩ := hv 0 _ rfl
        simp only [List.cons.injEq, and_true] at hc
        subst hc
        generalize vs.getD 0 undef = v0 at hr
        cases hr with
        | empty _ _ hv => simp [SC.isView] at hv
        | view _ _ _ _ _ hv => simp [SC.isView] at hv
        | raw hone =>
          refine ⟨_, rfl, ?_⟩
          have hlen0 : es.length = (SC.view es).len := rfl
          have hok := hG g cs hg
          rw [hlen0]
          refine .view g 0 cap z (fun k => (rd w g k).getD undef) rfl hn hz hcap hlen' (fun k hk => ?_) fun i e j x he hx => ?_
          · have hk : k < es.length * z := hk
            have h1 : k / z < es.length := Nat.div_lt_of_lt_mul (by rwa [Nat.mul_comm])
            have h2 : k % z < z := Nat.mod_lt _ hz
            have he : es[k / z]? = some es[k / z] := by simp [h1]
            have hez := hlen _ (List.mem_of_getElem? he)
            have hx : es[k / z][k % z]? = some es[k / z][k % z] := by simp [hez, h2]
            obtain ⟨v, q1, _⟩ := hok.1 _ _ (hcs _ _ _ _ he hx)
            have e1 : k / z * z + k % z = k := Nat.div_add_mod' k z
            rw [e1] at q1
            rw [Nat.zero_add, q1]; rfl
          · obtain ⟨v, q1, q2⟩ := hok.1 _ _ (hcs _ _ _ _ he hx)
            rw [q1]
            exact q2.mono (nomem_le _) (Mem.le_refl _)
    exact (hs.2 (rd w) w vs (Mem.le_refl _) hG hargs).mono fun e w1 he => let ⟨v, h1, h2, h3⟩ := he; ⟨v, h1, h2, memFree_res hm h3⟩
  · cases r with
    | upd z c => exact hm.elim
    | _ => exact hs.elim
end Go.Fw
namespace Go.Fw
open Go.RowKit (Below)
open Classical
def DC.rn (ρ : Nat → Nat) : DC → DC
  | .ptr id off => .ptr (ρ id) off
  | .own id => .own (ρ id)
  | .rptr id z i off => .rptr (ρ id) z i off
  | .mp id => .mp (ρ id)
  | .clo g id => .clo g (ρ id)
  | .st c => .st c
  | .nil => .nil
def Blk.rn (ρ : Nat → Nat) : Blk → Blk
  | .box t cs => .box t (cs.map (DC.rn ρ))
  | .rowD z l => .rowD z (l.map fun e => e.map (DC.rn ρ))
  | .fbox cs => .fbox cs
  | .row m z c => .row m z c
  | .map es => .map es
def rnX (ρ : Nat → Nat) (x : DX) : DX := (x.1, x.2.map (DC.rn ρ))
def rnV (ρ : Nat → Nat) : DV → DV
  | .val x => .val (rnX ρ x)
  | .tup l => .tup (l.map (rnX ρ))
def prs (ks : List Nat) (ρ : Nat → Nat) : List (Nat × Nat) := ks.map fun k => (k, ρ k)
theorem prs_mem {ks : List Nat} {ρ : Nat → Nat} {o n : Nat} : (o, n) ∈ prs ks ρ ↔ o ∈ ks ∧ n = ρ o := by
  simp only [prs, List.mem_map, Prod.mk.injEq]
  constructor
  · rintro ⟨k, hk, rfl, rfl⟩; exact ⟨hk, rfl⟩
  · rintro ⟨hk, rfl⟩; exact ⟨o, hk, rfl, rfl⟩
theorem renId_prs {ks : List Nat} {ρ : Nat → Nat} {k : Nat} (h : k ∈ ks) : renId (prs ks ρ) k = some (ρ k) := by
  induction ks with
  | nil => cases h
  | cons a ks ih =>
    show renId ((a, ρ a) :: prs ks ρ) k = _
    simp only [renId]
    by_cases e : k = a
    · subst e; simp
    · have e' : Nat.beq k a = false := by
        cases hb : Nat.beq k a
        · rfl
        · exact absurd (Nat.eq_of_beq_eq_true hb) e
      rw [e']
      exact ih ((List.mem_cons.1 h).resolve_left e)
theorem renC_prs {ks : List Nat} {ρ : Nat → Nat} {d : DC} (h : d.ment (· ∈ ks)) : renC (prs ks ρ) d = some (d.rn ρ) := by
  cases d <;> simp only [renC, DC.rn]
  all_goals (have h : _ ∈ ks := h; rw [renId_prs h])
theorem renCs_prs {ks : List Nat} {ρ : Nat → Nat} : ∀ {l : List DC}, (∀ d ∈ l, d.ment (· ∈ ks)) → renCs (prs ks ρ) l = some (l.map (DC.rn ρ))
  | [], _ => rfl
  | d :: l, h => by
    simp only [renCs]
    rw [renC_prs (h d List.mem_cons_self), renCs_prs fun x hx => h x (List.mem_cons_of_mem _ hx)]
    rfl
theorem renXs_prs {ks : List Nat} {ρ : Nat → Nat} : ∀ {l : List DX}, (∀ x ∈ l, mentX (· ∈ ks) x) → renXs (prs ks ρ) l = some (l.map (rnX ρ))
  | [], _ => rfl
  | x :: l, h => by
    simp only [renXs]
    rw [renCs_prs (h x List.mem_cons_self), renXs_prs fun y hy => h y (List.mem_cons_of_mem _ hy)]
    rfl
theorem renDV_prs {ks : List Nat} {ρ : Nat → Nat} {v : DV} (h : mentV (· ∈ ks) v) : renDV (prs ks ρ) v = some (rnV ρ v) := by
  cases v with
  | val x => simp only [renDV]; rw [renCs_prs h]; rfl
  | tup l => simp only [renDV]; rw [renXs_prs h]; rfl
theorem renL_prs {ks : List Nat} {ρ : Nat → Nat} : ∀ {l : List (List DC)}, (∀ e ∈ l, ∀ d ∈ e, d.ment (· ∈ ks)) → renL (prs ks ρ) l = some (l.map fun e => e.map (DC.rn ρ))
  | [], _ => rfl
  | e :: l, h => by
    simp only [renL]
    rw [renCs_prs (h e List.mem_cons_self), renL_prs fun x hx => h x (List.mem_cons_of_mem _ hx)]
    rfl
theorem renBlk_prs {ks : List Nat} {ρ : Nat → Nat} {b : Blk} (h : b.ment (· ∈ ks)) : renBlk (prs ks ρ) b = some (b.rn ρ) := by
  cases b with
  | box t cs => simp only [renBlk]; rw [renCs_prs h]; rfl
  | rowD z l => simp only [renBlk]; rw [renL_prs h]; rfl
  | _ => rfl
structure RnOk (ks : List Nat) (ρ : Nat → Nat) (H H' : HF) : Prop where
  nd : ks.Nodup
  inj : ∀ i ∈ ks, ∀ j ∈ ks, ρ i = ρ j → i = j
  ment : ∀ k b, H k = some b → b.ment (· ∈ ks)
  heap : ∀ n b', H' n = some b' → ∃ o b, o ∈ ks ∧ n = ρ o ∧ H o = some b ∧ b' = b.rn ρ
theorem RnOk.ok {ks : List Nat} {ρ : Nat → Nat} {H H' : HF} (h : RnOk ks ρ H H') : RenOk (prs ks ρ) H H' := by
  refine ⟨?_, ?_, fun n b' e => ?_⟩
  · have : (prs ks ρ).map Prod.fst = ks := by simp [prs, Function.comp_def]
    rw [this]; exact h.nd
  · have : (prs ks ρ).map Prod.snd = ks.map ρ := by simp [prs, Function.comp_def]
    rw [this]
    have hn := h.nd
    have hi := h.inj
    clear h this
    induction ks with
    | nil => exact List.nodup_nil
    | cons a ks ih =>
      rw [List.map_cons, List.nodup_cons]
      rw [List.nodup_cons] at hn
      refine ⟨fun hm => ?_, ih hn.2 fun i hi' j hj => hi i (List.mem_cons_of_mem _ hi') j (List.mem_cons_of_mem _ hj)⟩
      obtain ⟨k, hk, e⟩ := List.mem_map.1 hm
      have := hi k (List.mem_cons_of_mem _ hk) a List.mem_cons_self e
      subst this
      exact hn.1 hk
  · obtain ⟨o, b, h1, h2, h3, h4⟩ := h.heap n b' e
    exact ⟨o, b, prs_mem.2 ⟨h1, h2⟩, h3, by rw [h4]; exact renBlk_prs (h.ment o b h3)⟩
section
variable {C : Ctx} {f : FuncId} {nx nx0 : Nat} {xs xs0 : List DX} {Hs Hs0 Hs' Hs1 : Hp} {roots : List Nat} {r : DV} {ks : List Nat} {ρ : Nat → Nat}
theorem GRun.out (h : GRun C f nx xs Hs roots r Hs') (hR : RnOk ks ρ Hs'.get Hs1.get) (hr : mentV (· ∈ ks) r) (hroot : ∀ id ∈ roots, id ∈ ks ∧ ρ id = id) : GRun C f nx xs Hs roots (rnV ρ r) Hs1 := by
  have hok := hR.ok
  refine ⟨h.1, fun F β N w vs hG hw0 hown hH hN hsz hv => (h.2 F β N w vs hG hw0 hown hH hN hsz hv).mono fun e' w' he => ?_⟩
  obtain ⟨v, β', N', rfl, q1, q2, q3⟩ := he
  refine ⟨v, renB (prs ks ρ) β', renN (prs ks ρ), rfl, hok.heapRel q1, hok.repDV q2 (renDV_prs hr), fun id hid => ?_⟩
  obtain ⟨b, g1, g2⟩ := q3 id hid
  obtain ⟨g3, g4⟩ := hroot id hid
  refine ⟨b, g1, ?_⟩
  have := hok.beta (β := β') (prs_mem.2 ⟨g3, rfl⟩)
  rw [g4] at this
  rw [this]; exact g2
end
def fresh (n root id : Nat) : Nat := match Nat.beq id root with
  | true => id
  | false => 2 * (n * 4294967296 + id) + 1
theorem fresh_root (n root : Nat) : fresh n root root = root := by simp [fresh]
theorem fresh_ne {n root id : Nat} (h : id ≠ root) : fresh n root id = 2 * (n * 4294967296 + id) + 1 := by
  have e' : Nat.beq id root = false := by
    cases hb : Nat.beq id root
    · rfl
    · exact absurd (Nat.eq_of_beq_eq_true hb) h
  simp [fresh, e']
theorem tag_odd {id : Nat} (h : id % 2 = 1) : tag id = id / 8589934592 := by
  unfold tag
  rw [h]
theorem odd_div {n k : Nat} (hk : k < 4294967296) : (2 * (n * 4294967296 + k) + 1) / 8589934592 = n := by
  have e : 2 * (n * 4294967296 + k) + 1 = (2 * k + 1) + 8589934592 * n := by omega
  rw [e, Nat.add_mul_div_left _ _ (by omega), Nat.div_eq_of_lt (by omega), Nat.zero_add]
theorem fresh_tag {n root id : Nat} (h : id ≠ root) (hl : id < 4294967296) : tag (fresh n root id) = n := by
  rw [fresh_ne h, tag_odd (by omega), odd_div hl]
theorem fresh_inj {n root : Nat} {i j : Nat} (hi : i < 4294967296) (hj : j < 4294967296) (hr : tag root ≠ n ∨ root < 2 * (n * 4294967296) + 1) (h : fresh n root i = fresh n root j) : i = j := by
  by_cases h1 : i = root
  · by_cases h2 : j = root
    · rw [h1, h2]
    · exfalso
      subst h1
      have ht := fresh_tag (n := n) h2 hj
      rw [fresh_root] at h
      rw [← h] at ht
      rcases hr with hr | hr
      · exact hr ht
      · rw [fresh_ne h2] at h; omega
  · by_cases h2 : j = root
    · exfalso
      subst h2
      have ht := fresh_tag (n := n) h1 hi
      rw [fresh_root] at h
      rw [h] at ht
      rcases hr with hr | hr
      · exact hr ht
      · rw [fresh_ne h1] at h; omega
    · rw [fresh_ne h1, fresh_ne h2] at h; omega
abbrev keysH (T : Hp) : List Nat := T.map Prod.fst
def rnHp (ρ : Nat → Nat) (T : Hp) : Hp := T.map fun p => (ρ p.1, p.2.map (Blk.rn ρ))
theorem rnHp_keys (ρ : Nat → Nat) (T : Hp) : keysH (rnHp ρ T) = (keysH T).map ρ := by simp [keysH, rnHp, Function.comp_def]
theorem rnHp_get {ρ : Nat → Nat} : ∀ {T : Hp}, (∀ i ∈ keysH T, ∀ j ∈ keysH T, ρ i = ρ j → i = j) → ∀ k ∈ keysH T, (rnHp ρ T).get (ρ k) = (T.get k).map (Blk.rn ρ)
  | [], _, k, hk => by cases hk
  | (a, b) :: T, hi, k, hk => by
    show Hp.get ((ρ a, b.map (Blk.rn ρ)) :: rnHp ρ T) (ρ k) = _
    rw [Hp.get_cons, Hp.get_cons]
    by_cases e : k = a
    · subst e; rw [updH_same, updH_same]
    · have hk' : k ∈ keysH T := (List.mem_cons.1 hk).resolve_left e
      rw [updH_ne _ _ _ e, updH_ne _ _ _ fun h => e (hi k hk a List.mem_cons_self h)]
      exact rnHp_get (fun i h1 j h2 => hi i (List.mem_cons_of_mem _ h1) j (List.mem_cons_of_mem _ h2)) k hk'
structure Tpl (T : Hp) (root : Nat) : Prop where
  nd : (keysH T).Nodup
  lt : ∀ k ∈ keysH T, k < 4294967296 ∧ tag k = 0
  ment : ∀ k b, T.get k = some b → b.ment (· ∈ keysH T)
  root : ∃ t cs, T.get root = some (.box t cs)
theorem RnOk.hp {T : Hp} {root : Nat} (hT : Tpl T root) {ρ : Nat → Nat} (hi : ∀ i ∈ keysH T, ∀ j ∈ keysH T, ρ i = ρ j → i = j) : RnOk (keysH T) ρ T.get (rnHp ρ T).get := by
  refine ⟨hT.nd, hi, hT.ment, fun n b' e => ?_⟩
  have hk := Hp.get_key e
  have hk2 : n ∈ (keysH T).map ρ := by rw [← rnHp_keys]; exact hk
  obtain ⟨k, hk3, rfl⟩ := List.mem_map.1 hk2
  rw [rnHp_get hi k hk3] at e
  cases hg : T.get k with
  | none => rw [hg] at e; cases e
  | some b => rw [hg] at e; simp only [Option.map_some, Option.some.injEq] at e; exact ⟨k, b, hk3, rfl, hg, e.symm⟩
end Go.Fw
