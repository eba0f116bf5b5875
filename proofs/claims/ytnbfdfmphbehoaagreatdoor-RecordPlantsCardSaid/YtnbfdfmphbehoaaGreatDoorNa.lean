/- Parts of the proof, joined. -/

import Derived.Test.YtnbfdfmphbehoaaGreatDoorFe
import Derived.Test.YtnbfdfmphbehoaaGreatDoorWa
import Derived.Test.YtnbfdfmphbehoaaGreatDoorM
namespace Go.Proofs.Tryz
open Go.Fw Go.IntWalk Go.Plain
set_option maxRecDepth 100000
set_option maxHeartbeats 8000000
abbrev T (l : List UInt8) : SC := .lit (.string (B l))
abbrev K (b : Bool) : SC := .lit (.bool b)
abbrev V1 (l : List Str) : SV := (false, [.view (strs l)])
theorem resI {a b : Int} (h : a = b) : Res.one (I a) = .one (I b) := by rw [h]
theorem resB {a b : Bool} (h : a = b) : Res.one (Bo a) = .one (Bo b) := by rw [h]
theorem sA {l : List Str} {i : Nat} (h : i < l.length) : (strs l)[i]? = some [.lit (.string (B (l.getD i [])))] := by
  simp [List.getD_eq_getElem?_getD, h]
theorem bytesA {s : Str} {i : Nat} (h : i < s.length) : (bytesV (B s))[i]? = some [.lit (.int .u8 (((s.getD i 0).toNat : Nat) : Int))] := by
  simp [bytesV, B_data, List.getD_eq_getElem?_getD, h]
theorem bytes_len (s : Str) : (bytesV (B s)).length = s.length := by simp [bytesV, B_data]
theorem rWithin_sat (n lo hi : Int) : Sat cx.P cx.gl 46 [I n, I lo, I hi] (.one (Bo (decide (lo ≤ n) && decide (n ≤ hi)))) := by
  refine sF f46 ?_
  repeat' ((first | refine tG ?_ | exact True.intro | refine brp (fun h => ?_) fun h => ?_ | refine opsA_ifp rfl rfl rfl (fun h => ?_) fun h => ?_ | refine opsA_unlessp rfl rfl rfl (fun h => ?_) fun h => ?_) <;> (try conv => whnf))
  all_goals exact resB (by simp; omega)
theorem rUnless_b (b : Bool) (e : Int) : Sat cx.P cx.gl 41 [Bo b, I e] (.one (I (if b = true then 0 else e))) := by
  refine sF f41 ?_
  (try (refine tG ?_; try exact True.intro))
  cases b
  · (try (refine tG ?_; try exact True.intro))
    (first | done | rfl | exact True.intro)
  · (try (refine tG ?_; try exact True.intro))
    (first | done | rfl | exact True.intro)
theorem rUnless_p {b : Bool} {p : Prop} [BP b p] [Decidable p] (e : Int) : Sat cx.P cx.gl 41 [Bo b, I e] (.one (I (if p then 0 else e))) := by
  have h := rUnless_b b e
  rwa [show (if b = true then (0 : Int) else e) = if p then 0 else e from by simp only [BP.iff (b := b)]] at h
theorem rUnless_no {b : Bool} {p : Prop} [BP b p] (hp : ¬ p) (e : Int) : Sat cx.P cx.gl 41 [Bo b, I e] (.one (I e)) := by
  have h := rUnless_b b e
  rwa [if_neg (fun hb => hp ((BP.iff (b := b)).1 hb))] at h
theorem rUnless_yes {b : Bool} {p : Prop} [BP b p] (hp : p) (e : Int) : Sat cx.P cx.gl 41 [Bo b, I e] (.one (I 0)) := by
  have h := rUnless_b b e
  rwa [if_pos ((BP.iff (b := b)).2 hp)] at h
theorem rFirst_sat (l : List Int) (hl : l.length ≤ 1000000) : Sat cx.P cx.gl 40 [(false, [.ints l])] (.one (I (fs l))) := by
  have hd : ∀ i, i < l.length → fs (l.drop i) = if l.getD i 0 ≠ 0 then l.getD i 0 else fs (l.drop (i + 1)) := fun i hi => by
    rw [List.drop_eq_getElem_cons hi]
    show (if l[i] ≠ 0 then l[i] else fs (l.drop (i + 1))) = _
    rw [show l.getD i 0 = l[i] by simp [List.getD_eq_getElem?_getD, hi]]
  refine sF f40 ?_
  (try (refine tG ?_; try exact True.intro))
  refine loop_ind (ι := Nat) (fun i => i ≤ l.length ∧ fs (l.drop i) = fs l) (fun i => l.length - i) (fun i => ⟨[(5, some (.val (false, [.st (.ints l)]))), (6, vI l.length), (7, vI i)], [], 0⟩) 0 cA ⟨Nat.zero_le _, rfl⟩ ?_
  rintro i ⟨hi, he⟩
  by_cases hlt : i < l.length
  · have h1 := hd i hlt
    by_cases hz : l.getD i 0 = 0
    · rw [if_neg (by omega)] at h1
      repeat' ((first | refine tG ?_ | exact True.intro | refine brp (fun h => ?_) fun h => ?_ | refine opsA_ifp rfl rfl rfl (fun h => ?_) fun h => ?_ | refine opsA_unlessp rfl rfl rfl (fun h => ?_) fun h => ?_) <;> (try conv => whnf))
      all_goals first
        | (exfalso; omega)
        | exact ⟨i + 1, ⟨hlt, by omega⟩, by omega, cA⟩
    · rw [if_pos hz] at h1
      repeat' ((first | refine tG ?_ | exact True.intro | refine brp (fun h => ?_) fun h => ?_ | refine opsA_ifp rfl rfl rfl (fun h => ?_) fun h => ?_ | refine opsA_unlessp rfl rfl rfl (fun h => ?_) fun h => ?_) <;> (try conv => whnf))
      all_goals first
        | (exfalso; omega)
        | exact resI (by omega)
  · obtain rfl : i = l.length := by omega
    rw [List.drop_length] at he
    repeat' ((first | refine tG ?_ | exact True.intro | refine brp (fun h => ?_) fun h => ?_ | refine opsA_ifp rfl rfl rfl (fun h => ?_) fun h => ?_ | refine opsA_unlessp rfl rfl rfl (fun h => ?_) fun h => ?_) <;> (try conv => whnf))
    all_goals first
      | (exfalso; omega)
      | exact resI he
theorem strs_get {l : List Str} {i : Nat} (h : i < l.length) : (strs l)[i]? = some [T (l.getD i [])] := sA h
theorem hasText_sat (l : List Str) (x : Str) (hl : l.length ≤ 1000000) : Sat cx.P cx.gl 74 [V1 l, SS x] (.one (Bo (decide (x ∈ l)))) := by
  have hn : (strs l).length = l.length := by simp
  refine sF f74 ?_
  (try (refine tG ?_; try exact True.intro))
  refine loop_ind (ι := Nat) (fun i => i ≤ l.length ∧ x ∉ l.take i) (fun i => l.length - i) (fun i => ⟨[(0, some (.val (false, [.st (.view (strs l))]))), (1, lS x), (5, vI i)], [], 0⟩) 0 cA ⟨Nat.zero_le _, by simp⟩ ?_
  rintro i ⟨hi, hno⟩
  by_cases hlt : i < l.length
  · have he := strs_get hlt
    have hm := mem_succ (x := x) hlt
    have hin : l.getD i [] ∈ l := by rw [getD_at hlt]; exact List.getElem_mem hlt
    repeat' ((first | refine tG ?_ | exact True.intro | refine brp (fun h => ?_) fun h => ?_ | refine opsA_ifp rfl rfl rfl (fun h => ?_) fun h => ?_ | refine opsA_unlessp rfl rfl rfl (fun h => ?_) fun h => ?_) <;> (try conv => whnf))
    all_goals first
      | (exact resB (decide_eq_true (by rw [← h]; exact hin)).symm)
      | exact ⟨i + 1, ⟨hlt, fun hh => (hm.1 hh).elim hno fun e => h e.symm⟩, by omega, cA⟩
      | (exfalso; omega)
  · obtain rfl : i = l.length := by omega
    rw [List.take_length] at hno
    repeat' ((first | refine tG ?_ | exact True.intro | refine brp (fun h => ?_) fun h => ?_ | refine opsA_ifp rfl rfl rfl (fun h => ?_) fun h => ?_ | refine opsA_unlessp rfl rfl rfl (fun h => ?_) fun h => ?_) <;> (try conv => whnf))
    all_goals first
      | (exfalso; omega)
      | exact resB (decide_eq_false hno).symm
theorem index_sat (l : List (List UInt8)) (x : List UInt8) (hl : l.length ≤ 1000000) : Sat cx.P cx.gl 90 [(false, [.view (strs l)]), SS x] (.one (I (idxI l x))) := by
  have hn : (strs l).length = l.length := by simp
  refine sF f90 ?_
  (try (refine tG ?_; try exact True.intro))
  refine loop_ind (ι := Nat) (fun i => i ≤ l.length ∧ x ∉ l.take i) (fun i => l.length - i) (fun i => ⟨[(0, some (.val (false, [.st (.view (strs l))]))), (1, lS x), (7, vI l.length), (8, vI i)], [], 0⟩) 0 (canon_auto (by rw [← hn]; kernel_rfl)) ⟨Nat.zero_le _, by simp⟩ ?_
  rintro i ⟨hi, hno⟩
  by_cases hlt : i < l.length
  · have he := sA hlt
    have hg : l.getD i [] = l[i] := by simp [List.getD_eq_getElem?_getD, hlt]
    by_cases hx : x = l.getD i []
    · have e : idxI l x = i := idxI_at hlt (by rw [← hg]; exact hx.symm) hno
      rw [e]
      repeat' ((first | refine tG ?_ | exact True.intro | refine brp (fun h => ?_) fun h => ?_ | refine opsA_ifp rfl rfl rfl (fun h => ?_) fun h => ?_ | refine opsA_unlessp rfl rfl rfl (fun h => ?_) fun h => ?_) <;> (try conv => whnf))
      all_goals first | (exact rfl) | (exact absurd hx h)
    · have hno' : x ∉ l.take (i + 1) := by
        rw [List.take_add_one, List.getElem?_eq_getElem hlt]
        simp only [Option.toList_some, List.mem_append, List.mem_singleton, not_or]
        exact ⟨hno, by rw [← hg]; exact hx⟩
      repeat' ((first | refine tG ?_ | exact True.intro | refine brp (fun h => ?_) fun h => ?_ | refine opsA_ifp rfl rfl rfl (fun h => ?_) fun h => ?_ | refine opsA_unlessp rfl rfl rfl (fun h => ?_) fun h => ?_) <;> (try conv => whnf))
      all_goals first | (exact absurd h hx) | (exact ⟨i + 1, ⟨hlt, hno'⟩, by omega, cA⟩)
  · obtain rfl : i = l.length := by omega
    have e : idxI l x = -1 := idxI_no (by rw [List.take_length] at hno; exact hno)
    rw [e]
    (try (refine tG ?_; try exact True.intro))
    (first | done | rfl | exact True.intro)
theorem contains_sat (l : List Str) (x : Str) (hl : l.length ≤ 1000000) : Sat cx.P cx.gl 81 [V1 l, SS x] (.one (Bo (decide (x ∈ l)))) := by
  have hi := index_sat l x hl
  refine sF f81 ?_
  repeat ((first | (refine kO 7 rfl ?_; first | refine rG (fun _ z => ⟨_, hi, z⟩) ?_) | refine tG ?_ | exact True.intro); (try conv => whnf))
  refine resB ?_
  rw [Bool.eq_iff_iff]
  simp only [decide_eq_true_iff]
  unfold idxI
  by_cases h : x ∈ l
  · rw [if_pos h]; simp [h]
  · rw [if_neg h]; simp [h]
end Go.Proofs.Tryz
namespace Go.Proofs.Tryz
open Go.Fw Go.IntWalk Go.Plain
set_option maxRecDepth 100000
set_option maxHeartbeats 8000000
theorem isName_sat (s : Str) (hl : s.length ≤ 1000000) : Sat cx.P cx.gl 111 [SS s] (.one (Bo (decide (isNm s)))) := by
  have hb := bytes_len s
  refine sF f111 ?_
  (try (refine tG ?_; try exact True.intro))
  refine loop_ind (ι := Nat) (fun i => i ≤ s.length ∧ preN s i) (fun i => s.length - i) (fun i => ⟨[(0, lS s), (7, some (.val (false, [.st (.view (bytesV (B s)))]))), (8, vI s.length), (9, vI i)], [], 0⟩) 0 (canon_auto (by rw [← hb]; kernel_rfl)) ⟨Nat.zero_le _, fun j hj => by omega⟩ ?_
  rintro i ⟨hi, hp⟩
  by_cases hlt : i < s.length
  · have hg := bytesA hlt
    have hno := fun h => not_nm (s := s) (i := i) hlt h
    have hyes := fun h => preN_succ (s := s) (i := i) hp h
    have h255 : ((s.getD i 0).toNat : Int) ≤ 255 := by have := (s.getD i 0).toNat_lt; omega
    unfold okc at hno hyes
    generalize (s.getD i 0).toNat = c at *
    repeat' ((first | (refine kO 7 rfl ?_; first | refine rG (fun _ z => ⟨_, rWithin_sat _ _ _, z⟩) ?_) | refine tG ?_ | exact True.intro | refine brp (fun h => ?_) fun h => ?_ | refine opsA_ifp rfl rfl rfl (fun h => ?_) fun h => ?_ | refine opsA_unlessp rfl rfl rfl (fun h => ?_) fun h => ?_) <;> (try conv => whnf))
    all_goals first
      | (exfalso; omega)
      | exact resB (decide_eq_false (hno (by omega))).symm
      | exact ⟨i + 1, ⟨hlt, hyes (by omega)⟩, by omega, cA⟩
  · obtain rfl : i = s.length := by omega
    repeat' ((first | (refine kO 7 rfl ?_; first | refine rG (fun _ z => ⟨_, rWithin_sat _ _ _, z⟩) ?_) | refine tG ?_ | exact True.intro | refine brp (fun h => ?_) fun h => ?_ | refine opsA_ifp rfl rfl rfl (fun h => ?_) fun h => ?_ | refine opsA_unlessp rfl rfl rfl (fun h => ?_) fun h => ?_) <;> (try conv => whnf))
    all_goals first
      | (exfalso; omega)
      | exact resB (by rw [Bool.eq_iff_iff]; simp only [decide_eq_true_iff, Bool.and_eq_true]; unfold isNm; constructor <;> (intro h; refine ⟨?_, ?_⟩ <;> first | omega | exact hp))
theorem rNameErr_sat (s : Str) (hl : s.length ≤ 1000000) : Sat cx.P cx.gl 80 [SS s] (.one (I (nmErr s))) := by
  refine sF f80 ?_
  repeat ((first | (refine kO 7 rfl ?_; first | refine rG (fun _ z => ⟨_, isName_sat s hl, z⟩) ?_ | refine rG (fun _ z => ⟨_, rUnless_p _, z⟩) ?_) | refine tG ?_ | exact True.intro); (try conv => whnf))
  exact resI (by unfold nmErr; rfl)
theorem bIsName_sat (s : Str) (hl : s.length ≤ 1000000) : Sat cx.P cx.gl 83 [SS s] (.one (Bo (decide (isNm s)))) := by
  by_cases h12 : 1 ≤ s.length ∧ s.length ≤ 12
  · refine sF f83 ?_
    (try (refine tG ?_; try exact True.intro))
    refine loop_ind (ι := Nat) (fun i => i ≤ s.length ∧ preN s i) (fun i => s.length - i) (fun i => ⟨[(0, lS s), (3, vI i)], [], 0⟩) 0 cA ⟨Nat.zero_le _, fun j hj => by omega⟩ ?_
    rintro i ⟨hi, hp⟩
    by_cases hlt : i < s.length
    · have hno := fun h => not_nm (s := s) (i := i) hlt h
      have hyes := fun h => preN_succ (s := s) (i := i) hp h
      unfold okc at hno hyes
      (try (refine tG ?_; try exact True.intro))
      generalize (s.getD i 0).toNat = c at *
      repeat' ((first | refine tG ?_ | exact True.intro | refine brp (fun h => ?_) fun h => ?_ | refine opsA_ifp rfl rfl rfl (fun h => ?_) fun h => ?_ | refine opsA_unlessp rfl rfl rfl (fun h => ?_) fun h => ?_) <;> (try conv => whnf))
      all_goals first
        | (exfalso; omega)
        | exact resB (decide_eq_false (hno (by omega))).symm
        | exact ⟨i + 1, ⟨hlt, hyes (by omega)⟩, by omega, cA⟩
    · obtain rfl : i = s.length := by omega
      repeat' ((first | refine tG ?_ | exact True.intro | refine brp (fun h => ?_) fun h => ?_ | refine opsA_ifp rfl rfl rfl (fun h => ?_) fun h => ?_ | refine opsA_unlessp rfl rfl rfl (fun h => ?_) fun h => ?_) <;> (try conv => whnf))
      all_goals first
        | (exfalso; omega)
        | exact resB (decide_eq_true ⟨h12, hp⟩).symm
  · refine sF f83 ?_
    repeat' ((first | refine tG ?_ | exact True.intro | refine brp (fun h => ?_) fun h => ?_ | refine opsA_ifp rfl rfl rfl (fun h => ?_) fun h => ?_ | refine opsA_unlessp rfl rfl rfl (fun h => ?_) fun h => ?_) <;> (try conv => whnf))
    all_goals first
      | (exfalso; omega)
      | exact resB (decide_eq_false fun h => h12 h.1).symm
end Go.Proofs.Tryz
namespace Go.Proofs.Tryz
open Go.Fw Go.IntWalk Go.Plain
set_option maxRecDepth 100000
set_option maxHeartbeats 8000000
abbrev Fn1 (f : Nat) (caps : List (List SC)) : SV := (false, [.fn f [] caps])
abbrev vF (f : Nat) (caps : List (List SC)) : Option DV := some (.val (false, [.st (.fn f [] caps)]))
abbrev vM (id : Nat) : Option DV := some (.val (false, [.mp id]))
theorem unl_f (e : Int) : Sat cx.P cx.gl 41 [Bo false, I e] (.one (I e)) := rUnless_b false e
theorem unl_t (e : Int) : Sat cx.P cx.gl 41 [Bo true, I e] (.one (I 0)) := rUnless_b true e
theorem fst_a {a b : Int} (h : a ≠ 0) : Sat cx.P cx.gl 40 [(false, [.ints [a, b]])] (.one (I a)) := by
  have := rFirst_sat [a, b] (Nat.le_of_ble_eq_true rfl)
  rwa [show fs [a, b] = a by simp [fs, h]] at this
theorem fst_b (b : Int) : Sat cx.P cx.gl 40 [(false, [.ints [0, b]])] (.one (I b)) := by
  have := rFirst_sat [0, b] (Nat.le_of_ble_eq_true rfl)
  rwa [show fs [0, b] = b by by_cases h : b = 0 <;> simp [fs, h]] at this
def kn (l : List Str) : List (ByteArray × SV) := l.map fun s => (B s, (false, [.lit (.bool true)]))
theorem B_beq (a b : Str) : (B a == B b) = decide (a = b) := by
  by_cases h : a = b
  · subst h
    rw [decide_eq_true rfl]
    show ((B a).data == (B a).data) = true
    simp
  · rw [decide_eq_false h]
    show ((B a).data == (B b).data) = false
    simpa [B] using h
theorem find_kn (l : List Str) (s : Str) : findD (kn l) (B s) = if s ∈ l then some (false, [.lit (.bool true)]) else none := by
  induction l with
  | nil => rfl
  | cons a l ih =>
    show (match (B s == B a) with | true => some ((false, [SC.lit (.bool true)]) : SV) | false => findD (kn l) (B s)) = _
    rw [B_beq]
    by_cases h : s = a
    · subst h; simp
    · rw [decide_eq_false h, ih]; simp [h]
theorem look_in {l : List Str} {s : Str} (h : s ∈ l) : fromMap (findD (kn l) (B s)) (false, [.lit (.bool false)]) false = lit (.bool true) := by rw [find_kn, if_pos h]; rfl
theorem look_no {l : List Str} {s : Str} (h : s ∉ l) : fromMap (findD (kn l) (B s)) (false, [.lit (.bool false)]) false = lit (.bool false) := by rw [find_kn, if_neg h]; rfl
theorem put_kn {l : List Str} {s : Str} (h : s ∉ l) : putD (kn l) (B s) (false, [.lit (.bool true)]) = kn (l ++ [s]) := by
  induction l with
  | nil => rfl
  | cons a l ih =>
    simp only [List.mem_cons, not_or] at h
    show (match (B s == B a) with | true => _ | false => (B a, _) :: putD (kn l) (B s) _) = _
    rw [B_beq, decide_eq_false h.1, ih h.2]; rfl
theorem take_succ {l : List Str} {i : Nat} (h : i < l.length) : l.take (i + 1) = l.take i ++ [l.getD i []] := by
  rw [List.take_add_one, List.getElem?_eq_getElem h, getD_at h]; rfl
noncomputable def _root_.Go.Plain.Pl.gateE (p : Pl) (i : Nat) : Int := orE (nmAt p.gates i) 0
abbrev rsC (r : Rs) : List SC := [T r.test, J r.ans, J r.entry, K r.void]
abbrev tsC (t : Ts) : List SC := [T t.name, J t.kind, .view (strs t.needs), T t.rules, J t.lo, J t.hi]
abbrev ptC (q : Str × List Str) : List SC := [T q.1, .view (strs q.2)]
abbrev peC (q : Str × Int) : List SC := [T q.1, J q.2]
abbrev plC (p : Pl) : List SC := [.view (p.people.map peC), .view (strs p.gates), .view (p.tests.map tsC), .view (p.parts.map ptC), J p.shock, J p.life]
theorem map_at {α : Type} {f : α → List SC} {l : List α} {i : Nat} (h : i < l.length) (d : α) : (l.map f)[i]? = some (f (l.getD i d)) := by
  simp [List.getD_eq_getElem?_getD, h]
theorem nameP_sat (x : Str × Int) : Sat cx.P cx.gl 44 [(true, peC x)] (.one (SS x.1)) := by
  refine sF f44 ?_
  (try (refine tG ?_; try exact True.intro))
  (first | done | rfl | exact True.intro)
theorem namedP_sat (p : Pl) (hl : p.people.length ≤ 1000) (hs : ∀ i < p.people.length, ((p.people.getD i ([], 0)).1).length ≤ 1000)
    (hc : ∀ i < p.people.length, Sat cx.P cx.gl 45 [I (i : Int), (false, [.ref (plC p)])] (.one (I (if 0 ≤ (p.people.getD i ([], 0)).2 ∧ (p.people.getD i ([], 0)).2 ≤ 3 then 0 else 15)))) :
    Sat cx.P cx.gl 43 [(false, [.view (p.people.map peC)]), Fn1 44 [], Fn1 45 [plC p]] (.tup [I (scanA (p.peopleE) p.people.length).1, I (scanA (p.peopleE) p.people.length).2]) := by
  have hnl : p.pnames.length = p.people.length := by simp [Pl.pnames]
  have hrl : (p.people.map peC).length = p.people.length := by simp
  refine sF f43 ?_
  (try (refine tG ?_; try exact True.intro))
  refine loop_ind (ι := Nat) (fun i => i ≤ p.people.length ∧ ∀ j < i, (p.peopleE) j = 0) (fun i => p.people.length - i) (fun i => ⟨[(1, vF 44 []), (2, vF 45 [plC p]), (8, vM 0), (14, some (.val (false, [.st (.view (p.people.map peC))]))), (15, vI p.people.length), (16, vI i)], [(0, some (.map (kn (p.pnames.take i))))], 1⟩) 0 (canon_sub (ks := [1, 2, 8, 14, 15, 16]) (m := [(4, 0)]) (n := 1) (by rw [← hrl]; kernel_rfl)) ⟨Nat.zero_le _, fun j hj => by omega⟩ ?_
  rintro i ⟨hi, hp⟩
  by_cases hlt : i < p.people.length
  · have he := map_at (f := peC) hlt ([], 0)
    have hgn : p.pnames.getD i [] = (p.people.getD i ([], 0)).1 := by rw [getD_at hlt, getD_at (by rw [hnl]; exact hlt)]; simp [Pl.pnames]
    have hts := take_succ (l := p.pnames) (i := i) (by rw [hnl]; exact hlt)
    have hcc := hc i hlt
    have hss := hs i hlt
    have hfi : (p.peopleE) i = orE (orE (nmErr (p.pnames.getD i [])) (if p.pnames.getD i [] ∈ p.pnames.take i then 5 else 0)) (if 0 ≤ (p.people.getD i ([], 0)).2 ∧ (p.people.getD i ([], 0)).2 ≤ 3 then 0 else 15) := rfl
    have hret := fun (h : (p.peopleE) i ≠ 0) => scanA_at (f := p.peopleE) hlt hp h
    have hnx := fun (h : (p.peopleE) i = 0) => all_succ hp h
    rw [hgn] at hfi hts
    have hne := rNameErr_sat ((p.people.getD i ([], 0)).1) (by omega)
    have hnm := nameP_sat (p.people.getD i ([], 0))
    generalize p.pnames.take i = M at *
    by_cases h1 : isNm ((p.people.getD i ([], 0)).1)
    · have e1 : nmErr ((p.people.getD i ([], 0)).1) = 0 := if_pos h1
      rw [e1] at hne
      rw [e1, orE_0] at hfi
      by_cases h2 : (p.people.getD i ([], 0)).1 ∈ M
      · rw [if_pos h2, orE_no (by decide)] at hfi
        have hlk := look_in h2
        rw [hret (by rw [hfi]; decide), hfi]
        repeat ((first | (refine kO 7 rfl ?_; first | refine rG (fun _ z => ⟨_, hnm, z⟩) ?_ | refine rG (fun _ z => ⟨_, hne, z⟩) ?_ | refine rG (fun _ z => ⟨_, unl_f _, z⟩) ?_ | refine rG (fun _ z => ⟨_, fst_b _, z⟩) ?_) | refine tG ?_ | exact True.intro); (try conv => whnf))
        rw [hlk]
        repeat ((first | (refine kO 7 rfl ?_; first | refine rG (fun _ z => ⟨_, hnm, z⟩) ?_ | refine rG (fun _ z => ⟨_, hne, z⟩) ?_ | refine rG (fun _ z => ⟨_, unl_f _, z⟩) ?_ | refine rG (fun _ z => ⟨_, fst_b _, z⟩) ?_) | refine tG ?_ | exact True.intro); (try conv => whnf))
        (first | done | rfl | exact True.intro)
      · rw [if_neg h2, orE_0] at hfi
        have hlk := look_no h2
        have hpk := put_kn h2
        by_cases h3 : ((if 0 ≤ (p.people.getD i ([], 0)).2 ∧ (p.people.getD i ([], 0)).2 ≤ 3 then 0 else 15) : Int) = 0
        · rw [h3] at hcc hfi
          repeat ((first | (refine kO 7 rfl ?_; first | refine rG (fun _ z => ⟨_, hnm, z⟩) ?_ | refine rG (fun _ z => ⟨_, hne, z⟩) ?_ | refine rG (fun _ z => ⟨_, unl_t _, z⟩) ?_ | refine rG (fun _ z => ⟨_, fst_b _, z⟩) ?_ | refine rG (fun _ z => ⟨_, hcc, z⟩) ?_) | refine tG ?_ | exact True.intro); (try conv => whnf))
          rw [hlk]
          repeat ((first | (refine kO 7 rfl ?_; first | refine rG (fun _ z => ⟨_, hnm, z⟩) ?_ | refine rG (fun _ z => ⟨_, hne, z⟩) ?_ | refine rG (fun _ z => ⟨_, unl_t _, z⟩) ?_ | refine rG (fun _ z => ⟨_, fst_b _, z⟩) ?_ | refine rG (fun _ z => ⟨_, hcc, z⟩) ?_) | refine tG ?_ | exact True.intro); (try conv => whnf))
          exact ⟨i + 1, ⟨hlt, hnx hfi⟩, by omega, canon_sub (ks := [1, 2, 8, 14, 15, 16]) (m := [(0, 0)]) (n := 1) (by rw [hts, ← hpk]; kernel_rfl)⟩
        · rw [hret (by rw [hfi]; exact h3), hfi]
          repeat ((first | (refine kO 7 rfl ?_; first | refine rG (fun _ z => ⟨_, hnm, z⟩) ?_ | refine rG (fun _ z => ⟨_, hne, z⟩) ?_ | refine rG (fun _ z => ⟨_, unl_t _, z⟩) ?_ | refine rG (fun _ z => ⟨_, fst_b _, z⟩) ?_ | refine rG (fun _ z => ⟨_, hcc, z⟩) ?_) | refine tG ?_ | exact True.intro); (try conv => whnf))
          rw [hlk]
          repeat' ((first | (refine kO 7 rfl ?_; first | refine rG (fun _ z => ⟨_, hnm, z⟩) ?_ | refine rG (fun _ z => ⟨_, hne, z⟩) ?_ | refine rG (fun _ z => ⟨_, unl_t _, z⟩) ?_ | refine rG (fun _ z => ⟨_, fst_b _, z⟩) ?_ | refine rG (fun _ z => ⟨_, hcc, z⟩) ?_) | refine tG ?_ | exact True.intro | refine brp (fun h => ?_) fun h => ?_ | refine opsA_ifp rfl rfl rfl (fun h => ?_) fun h => ?_ | refine opsA_unlessp rfl rfl rfl (fun h => ?_) fun h => ?_) <;> (try conv => whnf))
          all_goals first
            | (exfalso; omega)
            | rfl
    · have e1 : nmErr ((p.people.getD i ([], 0)).1) = 4 := if_neg h1
      rw [e1] at hne
      rw [e1, orE_no (show (4 : Int) ≠ 0 by decide), orE_no (show (4 : Int) ≠ 0 by decide)] at hfi
      rw [hret (by rw [hfi]; decide), hfi]
      by_cases h2 : (p.people.getD i ([], 0)).1 ∈ M
      · have hlk := look_in h2
        repeat ((first | (refine kO 7 rfl ?_; first | refine rG (fun _ z => ⟨_, hnm, z⟩) ?_ | refine rG (fun _ z => ⟨_, hne, z⟩) ?_ | refine rG (fun _ z => ⟨_, unl_f _, z⟩) ?_ | refine rG (fun _ z => ⟨_, fst_a (show (4 : Int) ≠ 0 by decide), z⟩) ?_) | refine tG ?_ | exact True.intro); (try conv => whnf))
        rw [hlk]
        repeat ((first | (refine kO 7 rfl ?_; first | refine rG (fun _ z => ⟨_, hnm, z⟩) ?_ | refine rG (fun _ z => ⟨_, hne, z⟩) ?_ | refine rG (fun _ z => ⟨_, unl_f _, z⟩) ?_ | refine rG (fun _ z => ⟨_, fst_a (show (4 : Int) ≠ 0 by decide), z⟩) ?_) | refine tG ?_ | exact True.intro); (try conv => whnf))
        (first | done | rfl | exact True.intro)
      · have hlk := look_no h2
        repeat ((first | (refine kO 7 rfl ?_; first | refine rG (fun _ z => ⟨_, hnm, z⟩) ?_ | refine rG (fun _ z => ⟨_, hne, z⟩) ?_ | refine rG (fun _ z => ⟨_, unl_t _, z⟩) ?_ | refine rG (fun _ z => ⟨_, fst_a (show (4 : Int) ≠ 0 by decide), z⟩) ?_) | refine tG ?_ | exact True.intro); (try conv => whnf))
        rw [hlk]
        repeat ((first | (refine kO 7 rfl ?_; first | refine rG (fun _ z => ⟨_, hnm, z⟩) ?_ | refine rG (fun _ z => ⟨_, hne, z⟩) ?_ | refine rG (fun _ z => ⟨_, unl_t _, z⟩) ?_ | refine rG (fun _ z => ⟨_, fst_a (show (4 : Int) ≠ 0 by decide), z⟩) ?_) | refine tG ?_ | exact True.intro); (try conv => whnf))
        (first | done | rfl | exact True.intro)
  · obtain rfl : i = p.people.length := by omega
    rw [scanA_no hp]
    repeat' ((first | refine tG ?_ | exact True.intro | refine brp (fun h => ?_) fun h => ?_ | refine opsA_ifp rfl rfl rfl (fun h => ?_) fun h => ?_ | refine opsA_unlessp rfl rfl rfl (fun h => ?_) fun h => ?_) <;> (try conv => whnf))
    all_goals first
      | (exfalso; omega)
      | rfl
theorem nameG_sat (x : Str) : Sat cx.P cx.gl 50 [SS x] (.one (SS x)) := by
  refine sF f50 ?_
  (try (refine tG ?_; try exact True.intro))
  (first | done | rfl | exact True.intro)
theorem chkG_sat (i : Int) : Sat cx.P cx.gl 51 [I i] (.one (I 0)) := by
  refine sF f51 ?_
  (try (refine tG ?_; try exact True.intro))
  (first | done | rfl | exact True.intro)
theorem namedG_sat (p : Pl) (hl : p.gates.length ≤ 1000) (hs : ∀ i < p.gates.length, (p.gates.getD i []).length ≤ 1000)
    (hc : ∀ i < p.gates.length, Sat cx.P cx.gl 51 [I (i : Int)] (.one (I 0))) :
    Sat cx.P cx.gl 49 [(false, [.view (strs p.gates)]), Fn1 50 [], Fn1 51 []] (.tup [I (scanA (p.gateE) p.gates.length).1, I (scanA (p.gateE) p.gates.length).2]) := by
  have hnl : p.gates.length = p.gates.length := rfl
  have hrl : (strs p.gates).length = p.gates.length := by simp
  refine sF f49 ?_
  (try (refine tG ?_; try exact True.intro))
  refine loop_ind (ι := Nat) (fun i => i ≤ p.gates.length ∧ ∀ j < i, (p.gateE) j = 0) (fun i => p.gates.length - i) (fun i => ⟨[(1, vF 50 []), (2, vF 51 []), (8, vM 0), (14, some (.val (false, [.st (.view (strs p.gates))]))), (15, vI p.gates.length), (16, vI i)], [(0, some (.map (kn (p.gates.take i))))], 1⟩) 0 (canon_sub (ks := [1, 2, 8, 14, 15, 16]) (m := [(4, 0)]) (n := 1) (by rw [← hrl]; kernel_rfl)) ⟨Nat.zero_le _, fun j hj => by omega⟩ ?_
  rintro i ⟨hi, hp⟩
  by_cases hlt : i < p.gates.length
  · have he := sA hlt
    have hgn : p.gates.getD i [] = p.gates.getD i [] := rfl
    have hts := take_succ (l := p.gates) (i := i) (by rw [hnl]; exact hlt)
    have hcc := hc i hlt
    have hss := hs i hlt
    have hfi : (p.gateE) i = orE (orE (nmErr (p.gates.getD i [])) (if p.gates.getD i [] ∈ p.gates.take i then 5 else 0)) 0 := rfl
    have hret := fun (h : (p.gateE) i ≠ 0) => scanA_at (f := p.gateE) hlt hp h
    have hnx := fun (h : (p.gateE) i = 0) => all_succ hp h
    rw [hgn] at hfi hts
    have hne := rNameErr_sat (p.gates.getD i []) (by omega)
    have hnm := nameG_sat (p.gates.getD i [])
    generalize p.gates.take i = M at *
    by_cases h1 : isNm (p.gates.getD i [])
    · have e1 : nmErr (p.gates.getD i []) = 0 := if_pos h1
      rw [e1] at hne
      rw [e1, orE_0] at hfi
      by_cases h2 : p.gates.getD i [] ∈ M
      · rw [if_pos h2, orE_no (by decide)] at hfi
        have hlk := look_in h2
        rw [hret (by rw [hfi]; decide), hfi]
        repeat ((first | (refine kO 7 rfl ?_; first | refine rG (fun _ z => ⟨_, hnm, z⟩) ?_ | refine rG (fun _ z => ⟨_, hne, z⟩) ?_ | refine rG (fun _ z => ⟨_, unl_f _, z⟩) ?_ | refine rG (fun _ z => ⟨_, fst_b _, z⟩) ?_) | refine tG ?_ | exact True.intro); (try conv => whnf))
        rw [hlk]
        repeat ((first | (refine kO 7 rfl ?_; first | refine rG (fun _ z => ⟨_, hnm, z⟩) ?_ | refine rG (fun _ z => ⟨_, hne, z⟩) ?_ | refine rG (fun _ z => ⟨_, unl_f _, z⟩) ?_ | refine rG (fun _ z => ⟨_, fst_b _, z⟩) ?_) | refine tG ?_ | exact True.intro); (try conv => whnf))
        (first | done | rfl | exact True.intro)
      · rw [if_neg h2, orE_0] at hfi
        have hlk := look_no h2
        have hpk := put_kn h2
        by_cases h3 : (0 : Int) = 0
        · rw [h3] at hcc hfi
          repeat ((first | (refine kO 7 rfl ?_; first | refine rG (fun _ z => ⟨_, hnm, z⟩) ?_ | refine rG (fun _ z => ⟨_, hne, z⟩) ?_ | refine rG (fun _ z => ⟨_, unl_t _, z⟩) ?_ | refine rG (fun _ z => ⟨_, fst_b _, z⟩) ?_ | refine rG (fun _ z => ⟨_, hcc, z⟩) ?_) | refine tG ?_ | exact True.intro); (try conv => whnf))
          rw [hlk]
          repeat ((first | (refine kO 7 rfl ?_; first | refine rG (fun _ z => ⟨_, hnm, z⟩) ?_ | refine rG (fun _ z => ⟨_, hne, z⟩) ?_ | refine rG (fun _ z => ⟨_, unl_t _, z⟩) ?_ | refine rG (fun _ z => ⟨_, fst_b _, z⟩) ?_ | refine rG (fun _ z => ⟨_, hcc, z⟩) ?_) | refine tG ?_ | exact True.intro); (try conv => whnf))
          exact ⟨i + 1, ⟨hlt, hnx hfi⟩, by omega, canon_sub (ks := [1, 2, 8, 14, 15, 16]) (m := [(0, 0)]) (n := 1) (by rw [hts, ← hpk]; kernel_rfl)⟩
        · rw [hret (by rw [hfi]; exact h3), hfi]
          repeat ((first | (refine kO 7 rfl ?_; first | refine rG (fun _ z => ⟨_, hnm, z⟩) ?_ | refine rG (fun _ z => ⟨_, hne, z⟩) ?_ | refine rG (fun _ z => ⟨_, unl_t _, z⟩) ?_ | refine rG (fun _ z => ⟨_, fst_b _, z⟩) ?_ | refine rG (fun _ z => ⟨_, hcc, z⟩) ?_) | refine tG ?_ | exact True.intro); (try conv => whnf))
          rw [hlk]
          repeat' ((first | (refine kO 7 rfl ?_; first | refine rG (fun _ z => ⟨_, hnm, z⟩) ?_ | refine rG (fun _ z => ⟨_, hne, z⟩) ?_ | refine rG (fun _ z => ⟨_, unl_t _, z⟩) ?_ | refine rG (fun _ z => ⟨_, fst_b _, z⟩) ?_ | refine rG (fun _ z => ⟨_, hcc, z⟩) ?_) | refine tG ?_ | exact True.intro | refine brp (fun h => ?_) fun h => ?_ | refine opsA_ifp rfl rfl rfl (fun h => ?_) fun h => ?_ | refine opsA_unlessp rfl rfl rfl (fun h => ?_) fun h => ?_) <;> (try conv => whnf))
          all_goals first
            | (exfalso; omega)
            | rfl
    · have e1 : nmErr (p.gates.getD i []) = 4 := if_neg h1
      rw [e1] at hne
      rw [e1, orE_no (show (4 : Int) ≠ 0 by decide), orE_no (show (4 : Int) ≠ 0 by decide)] at hfi
      rw [hret (by rw [hfi]; decide), hfi]
      by_cases h2 : p.gates.getD i [] ∈ M
      · have hlk := look_in h2
        repeat ((first | (refine kO 7 rfl ?_; first | refine rG (fun _ z => ⟨_, hnm, z⟩) ?_ | refine rG (fun _ z => ⟨_, hne, z⟩) ?_ | refine rG (fun _ z => ⟨_, unl_f _, z⟩) ?_ | refine rG (fun _ z => ⟨_, fst_a (show (4 : Int) ≠ 0 by decide), z⟩) ?_) | refine tG ?_ | exact True.intro); (try conv => whnf))
        rw [hlk]
        repeat ((first | (refine kO 7 rfl ?_; first | refine rG (fun _ z => ⟨_, hnm, z⟩) ?_ | refine rG (fun _ z => ⟨_, hne, z⟩) ?_ | refine rG (fun _ z => ⟨_, unl_f _, z⟩) ?_ | refine rG (fun _ z => ⟨_, fst_a (show (4 : Int) ≠ 0 by decide), z⟩) ?_) | refine tG ?_ | exact True.intro); (try conv => whnf))
        (first | done | rfl | exact True.intro)
      · have hlk := look_no h2
        repeat ((first | (refine kO 7 rfl ?_; first | refine rG (fun _ z => ⟨_, hnm, z⟩) ?_ | refine rG (fun _ z => ⟨_, hne, z⟩) ?_ | refine rG (fun _ z => ⟨_, unl_t _, z⟩) ?_ | refine rG (fun _ z => ⟨_, fst_a (show (4 : Int) ≠ 0 by decide), z⟩) ?_) | refine tG ?_ | exact True.intro); (try conv => whnf))
        rw [hlk]
        repeat ((first | (refine kO 7 rfl ?_; first | refine rG (fun _ z => ⟨_, hnm, z⟩) ?_ | refine rG (fun _ z => ⟨_, hne, z⟩) ?_ | refine rG (fun _ z => ⟨_, unl_t _, z⟩) ?_ | refine rG (fun _ z => ⟨_, fst_a (show (4 : Int) ≠ 0 by decide), z⟩) ?_) | refine tG ?_ | exact True.intro); (try conv => whnf))
        (first | done | rfl | exact True.intro)
  · obtain rfl : i = p.gates.length := by omega
    rw [scanA_no hp]
    repeat' ((first | refine tG ?_ | exact True.intro | refine brp (fun h => ?_) fun h => ?_ | refine opsA_ifp rfl rfl rfl (fun h => ?_) fun h => ?_ | refine opsA_unlessp rfl rfl rfl (fun h => ?_) fun h => ?_) <;> (try conv => whnf))
    all_goals first
      | (exfalso; omega)
      | rfl
theorem nameT_sat (x : Ts) : Sat cx.P cx.gl 55 [(true, tsC x)] (.one (SS x.name)) := by
  refine sF f55 ?_
  (try (refine tG ?_; try exact True.intro))
  (first | done | rfl | exact True.intro)
theorem namedT_sat (p : Pl) (re : Str → Int) (hl : p.tests.length ≤ 1000) (hs : ∀ i < p.tests.length, ((p.tests.getD i ts0).name).length ≤ 1000)
    (hc : ∀ i < p.tests.length, Sat cx.P cx.gl 56 [I (i : Int), (false, [.ref (plC p)])] (.one (I (tsE re p.tests i)))) :
    Sat cx.P cx.gl 54 [(false, [.view (p.tests.map tsC)]), Fn1 55 [], Fn1 56 [plC p]] (.tup [I (scanA (p.testE re) p.tests.length).1, I (scanA (p.testE re) p.tests.length).2]) := by
  have hnl : (tnm p.tests).length = p.tests.length := by simp [tnm]
  have hrl : (p.tests.map tsC).length = p.tests.length := by simp
  refine sF f54 ?_
  (try (refine tG ?_; try exact True.intro))
  refine loop_ind (ι := Nat) (fun i => i ≤ p.tests.length ∧ ∀ j < i, (p.testE re) j = 0) (fun i => p.tests.length - i) (fun i => ⟨[(1, vF 55 []), (2, vF 56 [plC p]), (8, vM 0), (14, some (.val (false, [.st (.view (p.tests.map tsC))]))), (15, vI p.tests.length), (16, vI i)], [(0, some (.map (kn ((tnm p.tests).take i))))], 1⟩) 0 (canon_sub (ks := [1, 2, 8, 14, 15, 16]) (m := [(4, 0)]) (n := 1) (by rw [← hrl]; kernel_rfl)) ⟨Nat.zero_le _, fun j hj => by omega⟩ ?_
  rintro i ⟨hi, hp⟩
  by_cases hlt : i < p.tests.length
  · have he := map_at (f := tsC) hlt ts0
    have hgn : (tnm p.tests).getD i [] = (p.tests.getD i ts0).name := tnm_get hlt
    have hts := take_succ (l := (tnm p.tests)) (i := i) (by rw [hnl]; exact hlt)
    have hcc := hc i hlt
    have hss := hs i hlt
    have hfi : (p.testE re) i = orE (orE (nmErr ((tnm p.tests).getD i [])) (if (tnm p.tests).getD i [] ∈ (tnm p.tests).take i then 5 else 0)) (tsE re p.tests i) := rfl
    have hret := fun (h : (p.testE re) i ≠ 0) => scanA_at (f := p.testE re) hlt hp h
    have hnx := fun (h : (p.testE re) i = 0) => all_succ hp h
    rw [hgn] at hfi hts
    have hne := rNameErr_sat ((p.tests.getD i ts0).name) (by omega)
    have hnm := nameT_sat (p.tests.getD i ts0)
    generalize (tnm p.tests).take i = M at *
    by_cases h1 : isNm ((p.tests.getD i ts0).name)
    · have e1 : nmErr ((p.tests.getD i ts0).name) = 0 := if_pos h1
      rw [e1] at hne
      rw [e1, orE_0] at hfi
      by_cases h2 : (p.tests.getD i ts0).name ∈ M
      · rw [if_pos h2, orE_no (by decide)] at hfi
        have hlk := look_in h2
        rw [hret (by rw [hfi]; decide), hfi]
        repeat ((first | (refine kO 7 rfl ?_; first | refine rG (fun _ z => ⟨_, hnm, z⟩) ?_ | refine rG (fun _ z => ⟨_, hne, z⟩) ?_ | refine rG (fun _ z => ⟨_, unl_f _, z⟩) ?_ | refine rG (fun _ z => ⟨_, fst_b _, z⟩) ?_) | refine tG ?_ | exact True.intro); (try conv => whnf))
        rw [hlk]
        repeat ((first | (refine kO 7 rfl ?_; first | refine rG (fun _ z => ⟨_, hnm, z⟩) ?_ | refine rG (fun _ z => ⟨_, hne, z⟩) ?_ | refine rG (fun _ z => ⟨_, unl_f _, z⟩) ?_ | refine rG (fun _ z => ⟨_, fst_b _, z⟩) ?_) | refine tG ?_ | exact True.intro); (try conv => whnf))
        (first | done | rfl | exact True.intro)
      · rw [if_neg h2, orE_0] at hfi
        have hlk := look_no h2
        have hpk := put_kn h2
        by_cases h3 : ((tsE re p.tests i) : Int) = 0
        · rw [h3] at hcc hfi
          repeat ((first | (refine kO 7 rfl ?_; first | refine rG (fun _ z => ⟨_, hnm, z⟩) ?_ | refine rG (fun _ z => ⟨_, hne, z⟩) ?_ | refine rG (fun _ z => ⟨_, unl_t _, z⟩) ?_ | refine rG (fun _ z => ⟨_, fst_b _, z⟩) ?_ | refine rG (fun _ z => ⟨_, hcc, z⟩) ?_) | refine tG ?_ | exact True.intro); (try conv => whnf))
          rw [hlk]
          repeat ((first | (refine kO 7 rfl ?_; first | refine rG (fun _ z => ⟨_, hnm, z⟩) ?_ | refine rG (fun _ z => ⟨_, hne, z⟩) ?_ | refine rG (fun _ z => ⟨_, unl_t _, z⟩) ?_ | refine rG (fun _ z => ⟨_, fst_b _, z⟩) ?_ | refine rG (fun _ z => ⟨_, hcc, z⟩) ?_) | refine tG ?_ | exact True.intro); (try conv => whnf))
          exact ⟨i + 1, ⟨hlt, hnx hfi⟩, by omega, canon_sub (ks := [1, 2, 8, 14, 15, 16]) (m := [(0, 0)]) (n := 1) (by rw [hts, ← hpk]; kernel_rfl)⟩
        · rw [hret (by rw [hfi]; exact h3), hfi]
          repeat ((first | (refine kO 7 rfl ?_; first | refine rG (fun _ z => ⟨_, hnm, z⟩) ?_ | refine rG (fun _ z => ⟨_, hne, z⟩) ?_ | refine rG (fun _ z => ⟨_, unl_t _, z⟩) ?_ | refine rG (fun _ z => ⟨_, fst_b _, z⟩) ?_ | refine rG (fun _ z => ⟨_, hcc, z⟩) ?_) | refine tG ?_ | exact True.intro); (try conv => whnf))
          rw [hlk]
          repeat' ((first | (refine kO 7 rfl ?_; first | refine rG (fun _ z => ⟨_, hnm, z⟩) ?_ | refine rG (fun _ z => ⟨_, hne, z⟩) ?_ | refine rG (fun _ z => ⟨_, unl_t _, z⟩) ?_ | refine rG (fun _ z => ⟨_, fst_b _, z⟩) ?_ | refine rG (fun _ z => ⟨_, hcc, z⟩) ?_) | refine tG ?_ | exact True.intro | refine brp (fun h => ?_) fun h => ?_ | refine opsA_ifp rfl rfl rfl (fun h => ?_) fun h => ?_ | refine opsA_unlessp rfl rfl rfl (fun h => ?_) fun h => ?_) <;> (try conv => whnf))
          all_goals first
            | (exfalso; omega)
            | rfl
    · have e1 : nmErr ((p.tests.getD i ts0).name) = 4 := if_neg h1
      rw [e1] at hne
      rw [e1, orE_no (show (4 : Int) ≠ 0 by decide), orE_no (show (4 : Int) ≠ 0 by decide)] at hfi
      rw [hret (by rw [hfi]; decide), hfi]
      by_cases h2 : (p.tests.getD i ts0).name ∈ M
      · have hlk := look_in h2
        repeat ((first | (refine kO 7 rfl ?_; first | refine rG (fun _ z => ⟨_, hnm, z⟩) ?_ | refine rG (fun _ z => ⟨_, hne, z⟩) ?_ | refine rG (fun _ z => ⟨_, unl_f _, z⟩) ?_ | refine rG (fun _ z => ⟨_, fst_a (show (4 : Int) ≠ 0 by decide), z⟩) ?_) | refine tG ?_ | exact True.intro); (try conv => whnf))
        rw [hlk]
        repeat ((first | (refine kO 7 rfl ?_; first | refine rG (fun _ z => ⟨_, hnm, z⟩) ?_ | refine rG (fun _ z => ⟨_, hne, z⟩) ?_ | refine rG (fun _ z => ⟨_, unl_f _, z⟩) ?_ | refine rG (fun _ z => ⟨_, fst_a (show (4 : Int) ≠ 0 by decide), z⟩) ?_) | refine tG ?_ | exact True.intro); (try conv => whnf))
        (first | done | rfl | exact True.intro)
      · have hlk := look_no h2
        repeat ((first | (refine kO 7 rfl ?_; first | refine rG (fun _ z => ⟨_, hnm, z⟩) ?_ | refine rG (fun _ z => ⟨_, hne, z⟩) ?_ | refine rG (fun _ z => ⟨_, unl_t _, z⟩) ?_ | refine rG (fun _ z => ⟨_, fst_a (show (4 : Int) ≠ 0 by decide), z⟩) ?_) | refine tG ?_ | exact True.intro); (try conv => whnf))
        rw [hlk]
        repeat ((first | (refine kO 7 rfl ?_; first | refine rG (fun _ z => ⟨_, hnm, z⟩) ?_ | refine rG (fun _ z => ⟨_, hne, z⟩) ?_ | refine rG (fun _ z => ⟨_, unl_t _, z⟩) ?_ | refine rG (fun _ z => ⟨_, fst_a (show (4 : Int) ≠ 0 by decide), z⟩) ?_) | refine tG ?_ | exact True.intro); (try conv => whnf))
        (first | done | rfl | exact True.intro)
  · obtain rfl : i = p.tests.length := by omega
    rw [scanA_no hp]
    repeat' ((first | refine tG ?_ | exact True.intro | refine brp (fun h => ?_) fun h => ?_ | refine opsA_ifp rfl rfl rfl (fun h => ?_) fun h => ?_ | refine opsA_unlessp rfl rfl rfl (fun h => ?_) fun h => ?_) <;> (try conv => whnf))
    all_goals first
      | (exfalso; omega)
      | rfl
theorem nameQ_sat (x : Str × List Str) : Sat cx.P cx.gl 61 [(true, ptC x)] (.one (SS x.1)) := by
  refine sF f61 ?_
  (try (refine tG ?_; try exact True.intro))
  (first | done | rfl | exact True.intro)
theorem namedQ_sat (p : Pl) (hl : p.parts.length ≤ 1000) (hs : ∀ i < p.parts.length, ((p.parts.getD i ([], [])).1).length ≤ 1000)
    (hc : ∀ i < p.parts.length, Sat cx.P cx.gl 62 [I (i : Int), (false, [.ref (plC p)])] (.one (I (among (p.parts.getD i ([], [])).2 (tnm p.tests))))) :
    Sat cx.P cx.gl 60 [(false, [.view (p.parts.map ptC)]), Fn1 61 [], Fn1 62 [plC p]] (.tup [I (scanA (p.partE) p.parts.length).1, I (scanA (p.partE) p.parts.length).2]) := by
  have hnl : p.qnames.length = p.parts.length := by simp [Pl.qnames]
  have hrl : (p.parts.map ptC).length = p.parts.length := by simp
  refine sF f60 ?_
  (try (refine tG ?_; try exact True.intro))
  refine loop_ind (ι := Nat) (fun i => i ≤ p.parts.length ∧ ∀ j < i, (p.partE) j = 0) (fun i => p.parts.length - i) (fun i => ⟨[(1, vF 61 []), (2, vF 62 [plC p]), (8, vM 0), (14, some (.val (false, [.st (.view (p.parts.map ptC))]))), (15, vI p.parts.length), (16, vI i)], [(0, some (.map (kn (p.qnames.take i))))], 1⟩) 0 (canon_sub (ks := [1, 2, 8, 14, 15, 16]) (m := [(4, 0)]) (n := 1) (by rw [← hrl]; kernel_rfl)) ⟨Nat.zero_le _, fun j hj => by omega⟩ ?_
  rintro i ⟨hi, hp⟩
  by_cases hlt : i < p.parts.length
  · have he := map_at (f := ptC) hlt ([], [])
    have hgn : p.qnames.getD i [] = (p.parts.getD i ([], [])).1 := by rw [getD_at hlt, getD_at (by rw [hnl]; exact hlt)]; simp [Pl.qnames]
    have hts := take_succ (l := p.qnames) (i := i) (by rw [hnl]; exact hlt)
    have hcc := hc i hlt
    have hss := hs i hlt
    have hfi : (p.partE) i = orE (orE (nmErr (p.qnames.getD i [])) (if p.qnames.getD i [] ∈ p.qnames.take i then 5 else 0)) (among (p.parts.getD i ([], [])).2 (tnm p.tests)) := rfl
    have hret := fun (h : (p.partE) i ≠ 0) => scanA_at (f := p.partE) hlt hp h
    have hnx := fun (h : (p.partE) i = 0) => all_succ hp h
    rw [hgn] at hfi hts
    have hne := rNameErr_sat ((p.parts.getD i ([], [])).1) (by omega)
    have hnm := nameQ_sat (p.parts.getD i ([], []))
    generalize p.qnames.take i = M at *
    by_cases h1 : isNm ((p.parts.getD i ([], [])).1)
    · have e1 : nmErr ((p.parts.getD i ([], [])).1) = 0 := if_pos h1
      rw [e1] at hne
      rw [e1, orE_0] at hfi
      by_cases h2 : (p.parts.getD i ([], [])).1 ∈ M
      · rw [if_pos h2, orE_no (by decide)] at hfi
        have hlk := look_in h2
        rw [hret (by rw [hfi]; decide), hfi]
        repeat ((first | (refine kO 7 rfl ?_; first | refine rG (fun _ z => ⟨_, hnm, z⟩) ?_ | refine rG (fun _ z => ⟨_, hne, z⟩) ?_ | refine rG (fun _ z => ⟨_, unl_f _, z⟩) ?_ | refine rG (fun _ z => ⟨_, fst_b _, z⟩) ?_) | refine tG ?_ | exact True.intro); (try conv => whnf))
        rw [hlk]
        repeat ((first | (refine kO 7 rfl ?_; first | refine rG (fun _ z => ⟨_, hnm, z⟩) ?_ | refine rG (fun _ z => ⟨_, hne, z⟩) ?_ | refine rG (fun _ z => ⟨_, unl_f _, z⟩) ?_ | refine rG (fun _ z => ⟨_, fst_b _, z⟩) ?_) | refine tG ?_ | exact True.intro); (try conv => whnf))
        (first | done | rfl | exact True.intro)
      · rw [if_neg h2, orE_0] at hfi
        have hlk := look_no h2
        have hpk := put_kn h2
        by_cases h3 : ((among (p.parts.getD i ([], [])).2 (tnm p.tests)) : Int) = 0
        · rw [h3] at hcc hfi
          repeat ((first | (refine kO 7 rfl ?_; first | refine rG (fun _ z => ⟨_, hnm, z⟩) ?_ | refine rG (fun _ z => ⟨_, hne, z⟩) ?_ | refine rG (fun _ z => ⟨_, unl_t _, z⟩) ?_ | refine rG (fun _ z => ⟨_, fst_b _, z⟩) ?_ | refine rG (fun _ z => ⟨_, hcc, z⟩) ?_) | refine tG ?_ | exact True.intro); (try conv => whnf))
          rw [hlk]
          repeat ((first | (refine kO 7 rfl ?_; first | refine rG (fun _ z => ⟨_, hnm, z⟩) ?_ | refine rG (fun _ z => ⟨_, hne, z⟩) ?_ | refine rG (fun _ z => ⟨_, unl_t _, z⟩) ?_ | refine rG (fun _ z => ⟨_, fst_b _, z⟩) ?_ | refine rG (fun _ z => ⟨_, hcc, z⟩) ?_) | refine tG ?_ | exact True.intro); (try conv => whnf))
          exact ⟨i + 1, ⟨hlt, hnx hfi⟩, by omega, canon_sub (ks := [1, 2, 8, 14, 15, 16]) (m := [(0, 0)]) (n := 1) (by rw [hts, ← hpk]; kernel_rfl)⟩
        · rw [hret (by rw [hfi]; exact h3), hfi]
          repeat ((first | (refine kO 7 rfl ?_; first | refine rG (fun _ z => ⟨_, hnm, z⟩) ?_ | refine rG (fun _ z => ⟨_, hne, z⟩) ?_ | refine rG (fun _ z => ⟨_, unl_t _, z⟩) ?_ | refine rG (fun _ z => ⟨_, fst_b _, z⟩) ?_ | refine rG (fun _ z => ⟨_, hcc, z⟩) ?_) | refine tG ?_ | exact True.intro); (try conv => whnf))
          rw [hlk]
          repeat' ((first | (refine kO 7 rfl ?_; first | refine rG (fun _ z => ⟨_, hnm, z⟩) ?_ | refine rG (fun _ z => ⟨_, hne, z⟩) ?_ | refine rG (fun _ z => ⟨_, unl_t _, z⟩) ?_ | refine rG (fun _ z => ⟨_, fst_b _, z⟩) ?_ | refine rG (fun _ z => ⟨_, hcc, z⟩) ?_) | refine tG ?_ | exact True.intro | refine brp (fun h => ?_) fun h => ?_ | refine opsA_ifp rfl rfl rfl (fun h => ?_) fun h => ?_ | refine opsA_unlessp rfl rfl rfl (fun h => ?_) fun h => ?_) <;> (try conv => whnf))
          all_goals first
            | (exfalso; omega)
            | rfl
    · have e1 : nmErr ((p.parts.getD i ([], [])).1) = 4 := if_neg h1
      rw [e1] at hne
      rw [e1, orE_no (show (4 : Int) ≠ 0 by decide), orE_no (show (4 : Int) ≠ 0 by decide)] at hfi
      rw [hret (by rw [hfi]; decide), hfi]
      by_cases h2 : (p.parts.getD i ([], [])).1 ∈ M
      · have hlk := look_in h2
        repeat ((first | (refine kO 7 rfl ?_; first | refine rG (fun _ z => ⟨_, hnm, z⟩) ?_ | refine rG (fun _ z => ⟨_, hne, z⟩) ?_ | refine rG (fun _ z => ⟨_, unl_f _, z⟩) ?_ | refine rG (fun _ z => ⟨_, fst_a (show (4 : Int) ≠ 0 by decide), z⟩) ?_) | refine tG ?_ | exact True.intro); (try conv => whnf))
        rw [hlk]
        repeat ((first | (refine kO 7 rfl ?_; first | refine rG (fun _ z => ⟨_, hnm, z⟩) ?_ | refine rG (fun _ z => ⟨_, hne, z⟩) ?_ | refine rG (fun _ z => ⟨_, unl_f _, z⟩) ?_ | refine rG (fun _ z => ⟨_, fst_a (show (4 : Int) ≠ 0 by decide), z⟩) ?_) | refine tG ?_ | exact True.intro); (try conv => whnf))
        (first | done | rfl | exact True.intro)
      · have hlk := look_no h2
        repeat ((first | (refine kO 7 rfl ?_; first | refine rG (fun _ z => ⟨_, hnm, z⟩) ?_ | refine rG (fun _ z => ⟨_, hne, z⟩) ?_ | refine rG (fun _ z => ⟨_, unl_t _, z⟩) ?_ | refine rG (fun _ z => ⟨_, fst_a (show (4 : Int) ≠ 0 by decide), z⟩) ?_) | refine tG ?_ | exact True.intro); (try conv => whnf))
        rw [hlk]
        repeat ((first | (refine kO 7 rfl ?_; first | refine rG (fun _ z => ⟨_, hnm, z⟩) ?_ | refine rG (fun _ z => ⟨_, hne, z⟩) ?_ | refine rG (fun _ z => ⟨_, unl_t _, z⟩) ?_ | refine rG (fun _ z => ⟨_, fst_a (show (4 : Int) ≠ 0 by decide), z⟩) ?_) | refine tG ?_ | exact True.intro); (try conv => whnf))
        (first | done | rfl | exact True.intro)
  · obtain rfl : i = p.parts.length := by omega
    rw [scanA_no hp]
    repeat' ((first | refine tG ?_ | exact True.intro | refine brp (fun h => ?_) fun h => ?_ | refine opsA_ifp rfl rfl rfl (fun h => ?_) fun h => ?_ | refine opsA_unlessp rfl rfl rfl (fun h => ?_) fun h => ?_) <;> (try conv => whnf))
    all_goals first
      | (exfalso; omega)
      | rfl
end Go.Proofs.Tryz
