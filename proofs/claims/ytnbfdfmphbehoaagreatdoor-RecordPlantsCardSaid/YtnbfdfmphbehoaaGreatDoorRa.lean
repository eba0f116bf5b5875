/- Parts of the proof, joined. -/

import Derived.Test.YtnbfdfmphbehoaaGreatDoorWa
import Derived.Test.YtnbfdfmphbehoaaGreatDoorFe
import Derived.Lib.Walk
import Derived.Deep.RegionLaw
import Derived.Lib.SliceRun
import Derived.Laws.IdiomCopy
import Derived.Test.YtnbfdfmphbehoaaGreatDoorNa
import Derived.Test.YtnbfdfmphbehoaaGreatDoorM
import Derived.IntWalk
import Derived.RangeFuncCalls
import Derived.RangeFuncLeaves
import Derived.WalkKit
import Derived.OwnWalkIn
import Derived.TacticsInMore
import Derived.LoopNIn
import Derived.LoopIn
import Derived.Test.YtnbfdfmphbehoaaGreatDoorProg
namespace Go.Proofs.Tryz
open Go Go.RowKit Go.Fw Go.Lib
theorem setCells_row {w : World} {b off : Nat} {arr : Array Value} {T : TypeId} {vs : List Value} (hb : w.heap[b]? = some (.cells arr T)) (hf : off + vs.length ≤ arr.size) (h1 : ∀ v ∈ vs, v.oneCell' = true) : w.setCells b off vs = w.setRow b (spliceA arr off vs) := by
  have e1 := run_storeCells_at (default : Program) b off T vs 0 arr w hb (by simpa using hf) h1
  have e2 := run_storeCells_cells (P := default) b off vs 0 w (fun j hj => by simp [World.cell?, hb]; omega) (fun j hj => by simp [World.frozen?, hb]) h1
  rw [e1] at e2
  simp only [Nat.add_zero, Result.ok.injEq, true_and] at e2
  rw [← e2]; rfl
set_option maxHeartbeats 4000000 in
set_option maxRecDepth 1000000 in
theorem del_run (zs : List (List UInt8)) (i j : Nat) (hij : i < j) (hj : j ≤ zs.length) (b cap : Nat) (arr : Array Value) (T : TypeId) (w : World) (hb : w.heap[b]? = some (.cells arr T)) (hsz : arr.size = cap) (hcap : zs.length ≤ cap)
    (hget : ∀ k, k < zs.length → arr[k]? = some (.string (B (zs.getD k [])))) :
    Calls prog 197 #[.slice (some ⟨b, 0, none⟩) zs.length cap, .int .i64 i, .int .i64 j] w fun e w' => e = .returned (.slice (some ⟨b, 0, none⟩) (i + (zs.length - j)) cap) ∧
      ∃ arr', w' = w.drew.setRow b arr' ∧ arr'.size = arr.size ∧ ∀ k, k < i + (zs.length - j) → arr'[k]? = some (.string (B ((zs.take i ++ zs.drop j).getD k []))) := by
  have hbd : w.drew.heap[b]? = some (.cells arr T) := hb
  have mixed := cx_ok.mixed
  obtain ⟨n, hn⟩ : ∃ n, n = zs.length := ⟨_, rfl⟩
  obtain ⟨news, hnews⟩ : ∃ news, news = (zs.drop j).map fun s => Value.string (B s) := ⟨_, rfl⟩
  have hlen : news.length = n - j := by rw [hnews, hn]; simp
  have hone : ∀ u ∈ news, u.oneCell' = true := by
    intro u hu; rw [hnews] at hu; obtain ⟨x, _, rfl⟩ := List.mem_map.1 hu; rfl
  obtain ⟨A, hA, hsrc⟩ : ∃ A : Addr, (if cap = j then (some ⟨b, 0, none⟩ : Option Addr) else some ⟨b, j, none⟩) = some A ∧ Hid (∀ t u, news[t]? = some u → w.drew.cell? (A.add t) = some u) := by
    have hc : ∀ t u, news[t]? = some u → w.drew.cell? ⟨b, j + t, none⟩ = some u := by
      intro t u hu
      rw [hnews, List.getElem?_map, List.getElem?_drop, Option.map_eq_some_iff] at hu
      obtain ⟨x, hx, rfl⟩ := hu
      have hlt := (List.getElem?_eq_some_iff.1 hx).1
      have := hget _ hlt
      rw [List.getD_eq_getElem?_getD, hx] at this
      simp [World.cell?, hbd, this]
    by_cases h : cap = j
    · refine ⟨⟨b, 0, none⟩, by simp [h], fun t u hu => ?_⟩
      have : t < news.length := (List.getElem?_eq_some_iff.1 hu).1
      omega
    · refine ⟨⟨b, j, none⟩, by simp [h], fun t u hu => ?_⟩
      rw [Fw.addr_add]; exact hc t u hu
  have s1 : Hid (news.length = (n - j) * 1) := by show _ = _; omega
  have s2 : Hid (∀ u ∈ news, u.oneCell' = true) := hone
  have s3 : Hid (∀ t, t < news.length → (w.drew.cell? ⟨b, 0 + i * 1 + t, none⟩).isSome = true ∧ w.drew.frozen? ⟨b, 0 + i * 1 + t, none⟩ = false) := by
    intro t ht
    constructor
    · simp [World.cell?, hbd]; omega
    · simp [World.frozen?, hbd]
  obtain ⟨tf, td, tz, hT⟩ := Ctx.Ok.get cx_ok (t := 9) (i := (cx.ti 9).getD default) (by kernel_rfl)
  have hu : prog.underlying 23 = some (.slice 9) := by kernel_rfl
  obtain ⟨W1, hW1⟩ : ∃ W1, W1 = w.drew.setCells b (0 + i * 1) news := ⟨_, rfl⟩
  have hW1' : Hid (W1 = w.drew.setRow b (spliceA arr i news)) := by
    have := setCells_row (off := i) hbd (by omega) hone
    rw [← this, hW1, Nat.zero_add, Nat.mul_one]; exact rfl
  have hz : ∀ w : World, (zeroValue 9).run prog w = .ok (.string ByteArray.empty) w := fun w => by
    have : (prog.info? 9).bind (·.zero) = some (.string ByteArray.empty) := by kernel_rfl
    have h2 := hT.info
    rw [show cx.P = prog from rfl] at h2
    rw [h2] at this
    simp only [Option.bind_some] at this
    simp [zeroValue, typeInfo, h2, this]
  have hb1 : Hid (W1.heap[b]? = some (.cells (spliceA arr i news) T)) := by
    show _ = _
    rw [hW1'.out]
    exact setRow_heap w.drew b arr _ T (0, 0) hbd
  have hs1 : (spliceA arr i news).size = arr.size := spliceA_size (by omega)
  have hcl : ∀ ty, (Builtin.clear_ #[23] ty #[.slice (some ⟨b, i + (n - j), none⟩) (n - (i + (n - j))) (cap - (i + (n - j)))]).run prog W1 = .ok (.tuple #[]) (W1.setCells b (i + (n - j)) (List.replicate (n - (i + (n - j))) (.string ByteArray.empty))) :=
    fun ty => Lib.run_clear_slice W1 _ _ ty _ hu hz rfl rfl b _ _ _ (by omega) (fun t ht => by simp [World.cell?, hb1.out, hs1]; omega) (fun t ht => by simp [World.frozen?, hb1.out])
  have hW : Hid (W1 = w.drew.setCells b (0 + i * 1) news) := hW1
  have hfit2 : i + (n - j) + (List.replicate (n - (i + (n - j))) (Value.string ByteArray.empty)).length ≤ (spliceA arr i news).size := by rw [hs1]; simp; omega
  have hfin : Hid (∃ arr', W1.setCells b (i + (n - j)) (List.replicate (n - (i + (n - j))) (.string ByteArray.empty)) = w.drew.setRow b arr' ∧ arr'.size = arr.size ∧ ∀ k, k < i + (n - j) → arr'[k]? = some (.string (B ((zs.take i ++ zs.drop j).getD k [])))) := by
    refine ⟨spliceA (spliceA arr i news) (i + (n - j)) (List.replicate (n - (i + (n - j))) (.string ByteArray.empty)), ?_, by rw [spliceA_size hfit2, hs1], fun k hk => ?_⟩
    · rw [setCells_row (arr := spliceA arr i news) hb1.out hfit2 (fun v hv => by rw [List.eq_of_mem_replicate hv]; rfl), hW1'.out, setRow_setRow]
    · rw [spliceA_get hfit2, if_pos hk, spliceA_get (arr := arr) (off := i) (vs := news) (by omega)]
      by_cases h1 : k < i
      · rw [if_pos h1, hget k (by omega)]
        have e0 : (zs.take i ++ zs.drop j).getD k [] = zs.getD k [] := by
          rw [List.getD_eq_getElem?_getD, List.getElem?_append_left (by simp; omega), List.getElem?_take, if_pos h1, List.getD_eq_getElem?_getD]
        rw [e0]
      · rw [if_neg h1, if_pos (by omega), hnews, List.getElem?_map, List.getElem?_drop]
        have hlt : j + (k - i) < zs.length := by omega
        rw [List.getElem?_eq_getElem hlt, Option.map_some]
        congr 3
        have e1 : ¬ k < (zs.take i).length := by simp; omega
        simp only [List.getD_eq_getElem?_getD, List.getElem?_append, if_neg e1, List.length_take, List.getElem?_drop]
        have e2 : ¬ k < min i zs.length := by omega
        rw [show j + (k - min i zs.length) = j + (k - i) by omega, List.getElem?_eq_getElem hlt, if_neg e2, Option.getD_some]
  have hic : i ≤ cap := by omega
  have hjc : j ≤ cap := by omega
  have hne : ¬ i = j := by omega
  have hle : i ≤ j := by omega
  subst hn
  clear hnews hone hlen hW1 hW1' hfit2 hb1 hs1 hz hb hbd hget
  go_enter Tryz.func197, Tryz.ntmps197
  go_wp2_with fail
  go_region_law_o (refine step_append_room rfl (.tmp 22) (.tmp 25) 23 rfl 9 tf 1 hu hT.info hT.size b 0 i cap (by simp [Act.eval, Act.put]) A (zs.length - j) (cap - j) news (by simp [Act.eval, Act.put]) s1.out hsrc.out s2.out (by omega) s3.out ?_; rw [← hW.out])
  go_wp2
  go_ret
  exact ⟨rfl, hfin.out⟩
def decStrs : List (List SC) → Option (List (List UInt8))
  | [] => some []
  | [.lit (.string s)] :: l => match decStrs l with
    | some r => some (s.data.toList :: r)
    | none => none
  | _ => none
theorem decStrs_ok : ∀ {l : List (List SC)} {zs : List (List UInt8)}, decStrs l = some zs → l = strs zs
  | [], zs, h => by simp only [decStrs, Option.some.injEq] at h; subst h; rfl
  | [.lit (.string s)] :: l, zs, h => by
    simp only [decStrs] at h
    split at h
    · rename_i r hr
      cases h
      rw [strs, List.map_cons, B_of, decStrs_ok hr]
    · cases h
def delE : CH := fun fid f xs H => match Nat.beq f 197, xs with
  | true, [(false, [.own id]), (false, [.st (.lit (.int .i64 i))]), (false, [.st (.lit (.int .i64 j))])] => match H.get id with
    | some (.row true 1 (.view es)) => match decStrs es with
      | some zs => if 0 ≤ i ∧ i < j ∧ j ≤ (zs.length : Int) then .inr (one (.own fid), [(fid, some (.row true 1 (.view (strs (zs.take i.toNat ++ zs.drop j.toNat))))), (id, none)], [id]) else .inl [f]
      | none => .inl [f]
    | _ => .inl [f]
  | _, _ => .inl [f]
theorem delE_ok : ∀ fid f xs (H : Hp) e, delE fid f xs H = .inr e → HCall cx fid f xs H.get e.1 e.2.1 e.2.2 := by
  intro fid f xs H e h
  unfold delE at h
  split at h
  · rename_i id i j hf
    have hf := Nat.eq_of_beq_eq_true hf
    subst hf
    split at h
    · rename_i es hes
      split at h
      · rename_i zs hzs
        split at h
        · rename_i hb
          cases h
          obtain ⟨h1, h2, h3⟩ := hb
          have := delete_call (C := cx) (fid := fid) (f := 197) (by kernel_rfl) zs i.toNat j.toNat (by omega) (by omega) (fun b cap arr T w q1 q2 q3 q4 => del_run zs i.toNat j.toNat (by omega) (by omega) b cap arr T w q1 q2 q3 q4) (H := H.get) (id := id) (by rw [hes, decStrs_ok hzs])
          rw [show ((i.toNat : Nat) : Int) = i by omega, show ((j.toNat : Nat) : Int) = j by omega] at this
          exact this
        · cases h
      · cases h
    · cases h
  · cases h
end Go.Proofs.Tryz
namespace Go.Proofs.Tryz
open Go.Fw Go.IntWalk Go.Plain
theorem back_call (es : List (List SC)) (H : Hp) (fid : Nat) : HCall cx fid 178 [(false, [.st (.view es)])] H.get (one (.st (.fn 205 [] [[.view es]]))) [] [] :=
  runH_ok (L := 300) cx_ok (fnP_ok (bs := noBs) (L := 300) cx_ok (fun _ _ _ h => by cases h) 1) fid _ _ H (one (.st (.fn 205 [] [[.view es]])), [], []) (by kernel_rfl)
end Go.Proofs.Tryz
namespace Go.Proofs.Tryz
open Go Go.RowKit Go.Shelf Go.Fw Go.Plain
attribute [local go_sem] Oper.semAt_some
set_option maxRecDepth 100000 in
set_option maxHeartbeats 4000000 in
theorem back_iter (mr : Mem) (a : Option Addr) (n cap bc ob : Nat) (f : Nat → Array Value) (hn : n ≤ 1000000) (w : World) (hbc : mr bc ob = some (.slice a n cap))
    (hcells : ∀ i, i < n → ∃ b o, a = some ⟨b, o, none⟩ ∧ (f i).size = 4 ∧ ∀ k, k < 4 → mr b (o + i * 4 + k) = some ((f i).getD k undef)) :
    Iter prog 205 #[] #[.pointer (some ⟨bc, ob, none⟩)] ((List.range n).map fun j => #[.int .i64 ((n - 1 - j : Nat) : Int), .agg (f (n - 1 - j))]) mr w := by
  intro l J Jx W M0 hW hM0 hJ hJx hJm hY h0
  refine callsIn_of_wp Tryz.func205 rfl trivial ?_ rfl
  simp only [Tryz.ntmps205, List.size_toArray, List.length_cons, List.length_nil, Nat.reduceAdd, Nat.reduceSub, Array.replicate_succ, Array.replicate_zero, List.push_toArray, List.append_toArray, List.nil_append, List.cons_append]
  have c0 : W.cell? ⟨bc, ob, none⟩ = some (.slice a n cap) := hJm _ _ h0 _ _ _ hbc
  gi_wp2
  gi_loopw [3] (fun v wr => ∃ j : Nat, j ≤ n ∧ v = .int .i64 ((n : Int) - 1 - j) ∧ ∃ M, J (j, M) wr)
    (fun v _ => (intOf v + 1).toNat)
  case atStart => exact ⟨0, Nat.zero_le _, by simp, M0, h0⟩
  case round =>
    clear c0 h0
    obtain ⟨j, hj, rfl, M1, hJj⟩ := hrel
    have c1 : wr.cell? ⟨bc, ob, none⟩ = some (.slice a n cap) := hJm _ _ hJj _ _ _ hbc
    by_cases hjn : j < n
    · have e1 : decide ((n : Int) - 1 - j ≥ 0) = true := decide_eq_true (by omega)
      obtain ⟨b, o, rfl, hs4, hk4⟩ := hcells (n - 1 - j) (by omega)
      have hje : ((n : Int) - 1 - j).toNat = n - 1 - j := by omega
      have e2 : (Instr.indexAt 60 (.slice (some ⟨b, o, none⟩) n cap) (.int .i64 ((n : Int) - 1 - j))).run prog wr = .ok (.pointer (some ⟨b, o + (n - 1 - j) * 4, none⟩)) wr := by
        have := slice_idx (C := cx) (w := wr) (b := b) (o := o) (n := n) (cap := cap) (k := (n : Int) - 1 - j) cx_ok (T := 60) rfl rfl rfl (by omega) (by omega)
        rw [hje] at this
        exact this
      obtain ⟨v0, v1, v2, v3, hfe⟩ : ∃ v0 v1 v2 v3, f (n - 1 - j) = #[v0, v1, v2, v3] := by
        generalize f (n - 1 - j) = g at hs4
        obtain ⟨l⟩ := g
        match l, hs4 with
        | [v0, v1, v2, v3], _ => exact ⟨v0, v1, v2, v3, rfl⟩
      rw [hfe] at hk4
      have k0 : wr.cell? ⟨b, o + (n - 1 - j) * 4, none⟩ = some v0 := hJm _ _ hJj _ _ _ (hk4 0 (by omega))
      have k1 : wr.cell? ⟨b, o + (n - 1 - j) * 4 + 1, none⟩ = some v1 := hJm _ _ hJj _ _ _ (hk4 1 (by omega))
      have k2 : wr.cell? ⟨b, o + (n - 1 - j) * 4 + 2, none⟩ = some v2 := hJm _ _ hJj _ _ _ (hk4 2 (by omega))
      have k3 : wr.cell? ⟨b, o + (n - 1 - j) * 4 + 3, none⟩ = some v3 := hJm _ _ hJj _ _ _ (hk4 3 (by omega))
      have hx : ((List.range n).map fun j => #[Value.int .i64 ((n - 1 - j : Nat) : Int), Value.agg (f (n - 1 - j))])[j]? = some #[.int .i64 ((n : Int) - 1 - j), .agg #[v0, v1, v2, v3]] := by
        rw [List.getElem?_map, List.getElem?_range hjn]
        simp only [Option.map_some, Option.some.injEq]
        rw [show ((n - 1 - j : Nat) : Int) = (n : Int) - 1 - j by omega, hfe]
      obtain ⟨fn, tmps, assign, body, hy, hR⟩ := hY _ _ _ wr hx hJj
      gi_wp2
      refine ⟨rfl, hR.mono ?_⟩
      rintro e W3 (⟨rfl, M3, hJ3, hs3, hl3, hk3⟩ | ⟨rfl, hJx3⟩)
      · gi_wp2
        refine ⟨⟨j + 1, by omega, by congr 1; omega, M3, hJ3⟩, by simp only [intOf]; omega⟩
      · gi_wp2
        refine bodyPost_ret (results_none rfl _ _ _) rfl ?_
        exact ⟨⟨_, rfl⟩, .inr hJx3⟩
    · have e1 : decide ((n : Int) - 1 - j ≥ 0) = false := decide_eq_false (by omega)
      obtain rfl : j = n := by omega
      gi_wp2
      go_end0
      refine ⟨⟨_, rfl⟩, .inl ⟨M1, ?_⟩⟩
      rw [List.length_map, List.length_range]; exact hJj
theorem back_it (es : List (List SC)) (hn : es.length ≤ 1000000) (h4 : ∀ e ∈ es, e.length = 4) :
    SatIt cx.P cx.gl 205 [] [[.view es]] ((List.range es.length).map fun j => [(false, [.lit (.int .i64 ((es.length - 1 - j : Nat) : Int))]), (true, es.getD (es.length - 1 - j) [])]) := by
  refine ⟨by kernel_rfl, fun mv mr w fb cv hmv hmr hgl hfb hcv => ?_⟩
  have hfb0 : fb = #[] := Array.eq_empty_of_size_eq_zero hfb.1
  subst hfb0
  obtain ⟨v, rfl, hv⟩ := repL_one hcv
  cases hv with
  | empty _ _ hv => simp [SC.isView] at hv
  | view _ _ _ _ _ hv => simp [SC.isView] at hv
  | ref bc ob g hc hr =>
    have hbc : mr bc ob = some (g 0) := hc 0 (by simp)
    have hg := hr 0 _ rfl
    generalize g 0 = hv at hbc hg
    obtain ⟨a, cap, rfl, hcells⟩ : ∃ a cap, hv = .slice a es.length cap ∧ ∃ f : Nat → Array Value, ∀ i, i < es.length → ∃ b o, a = some ⟨b, o, none⟩ ∧ (f i).size = 4 ∧ (∀ k, k < 4 → mr b (o + i * 4 + k) = some ((f i).getD k undef)) ∧
        ∀ (k : Nat) (x : SC), (es.getD i [])[k]? = some x → Rep mv nomem ((f i).getD k undef) x := by
      cases hg with
      | empty a cap hv h0 => exact ⟨a, cap, by rw [show es.length = 0 from h0], fun _ => #[], fun i hi => by rw [show es.length = 0 from h0] at hi; omega⟩
      | view b o cap z f hv hpos hz hcap hl hc hr =>
        have hpos : 0 < es.length := hpos
        have hz4 : z = 4 := by
          rw [← hl 0 es[0] (by simp [SC.elem, hpos])]; exact h4 _ (List.getElem_mem hpos)
        subst hz4
        refine ⟨_, cap, rfl, fun i => #[f (i * 4), f (i * 4 + 1), f (i * 4 + 2), f (i * 4 + 3)], fun i hi => ⟨b, o, rfl, rfl, fun k hk => ?_, fun k x hx => ?_⟩⟩
        · have := hmv _ _ _ (hc (i * 4 + k) (by show _ < es.length * 4; omega))
          rw [show o + i * 4 + k = o + (i * 4 + k) by omega, this]
          match k, hk with
          | 0, _ => rfl
          | 1, _ => rfl
          | 2, _ => rfl
          | 3, _ => rfl
        · have he : (SC.view es).elem i = some (es.getD i []) := by simp [SC.elem, List.getD_eq_getElem?_getD, hi]
          have hk := (List.getElem?_eq_some_iff.1 hx).1
          rw [hl i _ he] at hk
          have := hr i _ k x he hx
          match k, hk with
          | 0, _ => exact this
          | 1, _ => exact this
          | 2, _ => exact this
          | 3, _ => exact this
    obtain ⟨f, hf⟩ := hcells
    refine ⟨(List.range es.length).map fun j => #[.int .i64 ((es.length - 1 - j : Nat) : Int), .agg (f (es.length - 1 - j))], by simp, fun i x r hx hr' => ?_, ?_⟩
    · rw [List.getElem?_map, Option.map_eq_some_iff] at hx hr'
      obtain ⟨j, hj, rfl⟩ := hx
      obtain ⟨j', hj', rfl⟩ := hr'
      rw [hj] at hj'; cases hj'
      have hjl : j < es.length := by
        have := (List.getElem?_eq_some_iff.1 hj)
        obtain ⟨q1, q2⟩ := this
        simp at q1 q2; omega
      obtain ⟨b, o, _, q2, _, q4⟩ := hf (es.length - 1 - j) (by omega)
      refine ⟨rfl, fun k x hk => ?_⟩
      match k, hk with
      | 0, hk => simp at hk; subst hk; exact ⟨_, rfl, .lit rfl⟩
      | 1, hk =>
        simp at hk; subst hk
        refine ⟨_, rfl, ?_, q4⟩
        rw [q2]
        have hlt : es.length - 1 - j < es.length := by omega
        simp only [List.getD_eq_getElem?_getD, List.getElem?_eq_getElem hlt, Option.getD_some]
        exact (h4 _ (List.getElem_mem hlt)).symm
      | k + 2, hk => simp at hk
    · exact back_iter mr a es.length cap bc ob f hn w hbc fun i hi => let ⟨b, o, h1, h2, h3, _⟩ := hf i hi; ⟨b, o, h1, h2, h3⟩
end Go.Proofs.Tryz
namespace Go.Proofs.Tryz
open Go.Fw Go.IntWalk Go.Plain
set_option maxRecDepth 100000
set_option maxHeartbeats 8000000
theorem rs_get {l : List Rs} {j : Nat} (h : j < l.length) : (l.map rsC).getD (l.length - 1 - j) [] = rsC (l.reverse.getD j rs0) := by
  have h1 : l.length - 1 - j < l.length := by omega
  simp [List.getD_eq_getElem?_getD, h, h1, List.getElem?_reverse]
theorem find_none {l : List Rs} {t : Str} (h : ∀ j, j < l.length → hits t (l.reverse.getD j rs0) = false) : lastF l t = none := by
  unfold lastF
  rw [List.find?_eq_none]
  intro x hx
  obtain ⟨j, hj, rfl⟩ := List.getElem_of_mem hx
  have := h j (by simpa using hj)
  rw [List.getD_eq_getElem?_getD, List.getElem?_eq_getElem hj, Option.getD_some] at this
  rw [this]; decide
theorem find_some {l : List Rs} {t : Str} {i : Nat} (hi : i < l.length) (h : ∀ j, j < i → hits t (l.reverse.getD j rs0) = false) (hh : hits t (l.reverse.getD i rs0) = true) : lastF l t = some (l.reverse.getD i rs0) := by
  have hi' : i < l.reverse.length := by simpa using hi
  unfold lastF
  rw [List.find?_eq_some_iff_getElem]
  have e : l.reverse.getD i rs0 = l.reverse[i] := by rw [List.getD_eq_getElem?_getD, List.getElem?_eq_getElem hi', Option.getD_some]
  refine ⟨hh, i, hi', e.symm, fun j hj => ?_⟩
  have := h j hj
  rw [List.getD_eq_getElem?_getD, List.getElem?_eq_getElem (by omega), Option.getD_some] at this
  rw [this]; rfl
theorem last_sat (c0 c1 c2 c3 c4 c5 c6 c7 c8 c9 c10 : SC) (res : List Rs) (tl : List SC) (t : Str) (hl : res.length ≤ 1000000) :
    Sat cx.P cx.gl 133 [(false, [.ref (c0 :: c1 :: c2 :: c3 :: c4 :: c5 :: c6 :: c7 :: c8 :: c9 :: c10 :: .view (res.map rsC) :: tl)]), SS t] (.tup [(true, rsC ((lastF res t).getD rs0)), Bo (lastF res t).isSome]) := by
  have hit := back_it (res.map rsC) (by simpa using hl) (fun e he => by obtain ⟨r, _, rfl⟩ := List.mem_map.1 he; rfl)
  rw [List.length_map] at hit
  refine sF f133 ?_
  refine aS ?_; (refine aR ?_; conv => whnf); (try (refine tR ?_; try exact True.intro))
  refine aS ?_
  refine awp_seqw ?_; (refine aR ?_; conv => whnf); repeat ((first | (refine kO 7 rfl ?_; first | refine rGH (fun _ z => ⟨_, _, _, back_call _ _ _, z⟩) ?_) | refine tR ?_ | exact True.intro); (try conv => whnf))
  refine ⟨⟨[(3, pP 0), (4, pP 1), (5, pP 2), (12, some (.val (false, [.st (.fn 205 [] [[.view (res.map rsC)]])])))],
    [(0, some (.box 9 [.st (T t)])), (1, some (.box 131 [.st (T []), .st (J 0), .st (J 0), .st (K false)])), (2, some (.box 4 [.st (K false)]))], 3⟩, cA, ?_⟩
  refine aB ?_
  refine aF rfl _ (fun _ => [(0, some (.box 9 [.st (T t)])), (1, some (.box 131 [.st (T []), .st (J 0), .st (J 0), .st (K false)])), (2, some (.box 4 [.st (K false)]))]) 3
    (fun i => ∀ j, j < i → hits t (res.reverse.getD j rs0) = false) hit (fun r hr => by obtain ⟨c, _, rfl⟩ := List.mem_map.1 hr; rfl) (by kernel_rfl) (fun _ => rfl) (Sub.refl _) (fun j hj => by omega) ?_ ?_
  · intro i r hr hinv
    have hi : i < res.length := by have := (List.getElem?_eq_some_iff.1 hr).1; simpa using this
    rw [List.getElem?_map, List.getElem?_range hi, Option.map_some, Option.some.injEq, rs_get hi] at hr
    subst hr
    have e1 : hits t (res.reverse.getD i rs0) = true → lastF res t = some (res.reverse.getD i rs0) := fun h => find_some hi hinv h
    have e2 : hits t (res.reverse.getD i rs0) = false → ∀ j, j < i + 1 → hits t (res.reverse.getD j rs0) = false := fun h j hj => by
      rcases Nat.lt_succ_iff_lt_or_eq.1 hj with h' | rfl
      · exact hinv j h'
      · exact h
    generalize res.reverse.getD i rs0 = r at e1 e2
    show Awp cx _ ⟨(14, _) :: (13, _) :: _, _, _⟩ _ _ _
    (refine aR ?_; conv => whnf)
    repeat' ((first | refine tG ?_ | exact True.intro | refine brp (fun h => ?_) fun h => ?_ | refine opsA_ifp rfl rfl rfl (fun h => ?_) fun h => ?_ | refine opsA_unlessp rfl rfl rfl (fun h => ?_) fun h => ?_) <;> (try conv => whnf))
    · rename_i h1
      have hh : hits t r = true := by unfold hits; simp [h1, h]
      rw [e1 hh]
      exact ⟨[(0, some (.box 9 [.st (T t)])), (1, some (.box 131 ((rsC r).map .st))), (2, some (.box 4 [.st (K true)]))], 3, by kernel_rfl, cA, rfl⟩
    · rename_i h1
      have hh : hits t r = false := by unfold hits; simp at h; simp [h1, h]
      exact ⟨e2 hh, cA⟩
    · have hh : hits t r = false := by unfold hits; simp [h]
      exact ⟨e2 hh, cA⟩
  · intro hinv
    rw [List.length_map, List.length_range] at hinv
    rw [find_none hinv]
    conv => whnf
    (try (refine tG ?_; try exact True.intro))
    (first | done | rfl | exact True.intro)
def decS : SC → Option Str
  | .lit (.string s) => some s.data.toList
  | _ => none
theorem decS_ok {c : SC} {s : Str} (h : decS c = some s) : c = T s := by
  unfold decS at h
  split at h
  · simp only [Option.some.injEq] at h; subst h; rw [T, B_of]
  · cases h
def decR : List SC → Option Rs
  | [a, .lit (.int .i64 b), .lit (.int .i64 c), .lit (.bool d)] => match decS a with
    | some s => some ⟨s, b, c, d⟩
    | none => none
  | _ => none
theorem decR_ok {c : List SC} {s : Rs} (h : decR c = some s) : c = rsC s := by
  unfold decR at h
  split at h
  · split at h
    · rename_i hs; cases h; rw [decS_ok hs]
    · cases h
  · cases h
def decRs : List (List SC) → Option (List Rs)
  | [] => some []
  | e :: l => match decR e, decRs l with
    | some r, some rs => some (r :: rs)
    | _, _ => none
theorem decRs_ok : ∀ {l : List (List SC)} {rs : List Rs}, decRs l = some rs → l = rs.map rsC
  | [], rs, h => by simp only [decRs, Option.some.injEq] at h; subst h; rfl
  | e :: l, rs, h => by
    simp only [decRs] at h
    split at h
    · rename_i r rs' h1 h2
      cases h
      rw [List.map_cons, ← decR_ok h1, ← decRs_ok h2]
    · cases h
def lastE (f : FuncId) : List SV → Sum (List Nat) Res
  | [(false, [.ref (c0 :: c1 :: c2 :: c3 :: c4 :: c5 :: c6 :: c7 :: c8 :: c9 :: c10 :: .view es :: tl)]), (false, [.lit (.string t)])] => match decRs es with
    | some rs => match Nat.ble rs.length 1000000 with
      | true => .inr (.tup [(true, rsC ((lastF rs t.data.toList).getD rs0)), Bo (lastF rs t.data.toList).isSome])
      | false => .inl [f, 1000031]
    | none => .inl [f, 1000032]
  | _ => .inl [f, 1000033]
def bs : CL := fun f args => match Nat.beq f 133 with
  | true => lastE f args
  | false => libF nos f args
theorem bs_ok : ∀ f a r, bs f a = .inr r → Sat cx.P cx.gl f a r := by
  intro f a r h
  unfold bs at h
  split at h
  · rename_i hf
    have hf := Nat.eq_of_beq_eq_true hf
    unfold lastE at h
    split at h
    · rename_i c0 c1 c2 c3 c4 c5 c6 c7 c8 c9 c10 es tl t
      split at h
      · rename_i rs hrs
        split at h
        · rename_i hl
          cases h
          subst hf
          rw [decRs_ok hrs]
          have := last_sat c0 c1 c2 c3 c4 c5 c6 c7 c8 c9 c10 rs tl t.data.toList (Nat.le_of_ble_eq_true hl)
          rwa [show SS t.data.toList = (false, [SC.lit (.string t)]) by rw [SS, B_of]] at this
        · cases h
      · cases h
    · cases h
  · exact lib_ok f a r h
end Go.Proofs.Tryz
