/- Plain: the product of two words by halves. -/

import Derived.IntWalk
import Derived.Test.YtnbfdfmphbehoaaGreatDoorFe
namespace Go.Fw
open Go.IntWalk
end Go.Fw
namespace Go.Plain
end Go.Plain
namespace Go.Plain
def psum (l : List Int) (k : Nat) : Int := (l.take k).sum
def rs (a b : List Int) (k : Nat) : Int := psum a k + psum b k
def AllIn (l : List Int) (lo hi : Int) : Prop := ∀ n ∈ l, lo ≤ n ∧ n ≤ hi
instance (l : List Int) (lo hi : Int) : Decidable (AllIn l lo hi) := inferInstanceAs (Decidable (∀ n ∈ l, lo ≤ n ∧ n ≤ hi))
def windowErr (a b : List Int) : Int :=
  if 0 < a.length ∧ a.length = b.length then if a.length ≤ 15 then if AllIn a (-100) 100 then if AllIn b (-100) 100 then if a.sum + b.sum = 0 then 0 else 13 else 2 else 2 else 8 else 10
structure VW (a b : List Int) : Prop where
  len : b.length = a.length
  pos : 0 < a.length
  le : a.length ≤ 15
  ra : ∀ n ∈ a, -100 ≤ n ∧ n ≤ 100
  rb : ∀ n ∈ b, -100 ≤ n ∧ n ≤ 100
  sum : a.sum + b.sum = 0
theorem windowErr_zero {a b : List Int} : windowErr a b = 0 ↔ VW a b := by
  unfold windowErr
  constructor
  · intro h
    (repeat' split at h) <;> first | omega | skip
    rename_i h1 h2 h3 h4 h5
    exact ⟨by omega, by omega, by omega, h3, h4, by omega⟩
  · intro h
    have := h.len; have := h.pos; have := h.le
    rw [if_pos (by omega), if_pos (by omega), if_pos (show AllIn a (-100) 100 from h.ra), if_pos (show AllIn b (-100) 100 from h.rb), if_pos h.sum]
instance (a b : List Int) : Decidable (VW a b) := decidable_of_iff _ windowErr_zero
end Go.Plain
namespace Go.Plain
end Go.Plain
namespace Go.Plain
def mx (a b : Int) : Int := if b > a then b else a
end Go.Plain
namespace Go.Plain
end Go.Plain
namespace Go.Plain
def Bal (a b : List Int) (n : Nat) : Prop := ∀ j < n, a.getD j 0 = -b.getD j 0
instance (a b : List Int) (n : Nat) : Decidable (Bal a b n) := inferInstanceAs (Decidable (∀ j < n, a.getD j 0 = -b.getD j 0))
end Go.Plain
namespace Go.Plain
def cmpF (p q r s : Int) : Int := if p * s < r * q then -1 else if p * s > r * q then 1 else 0
end Go.Plain
namespace Go.Plain
end Go.Plain
namespace Go.Plain
end Go.Plain
namespace Go.Plain
end Go.Plain
namespace Go.Plain
open Go.Lib
def wN (sg : Bool) (d : Nat) (s : Bytes) : Option Int := match numN d s with
  | some n => if sg = true ∨ 0 ≤ n then some n else none
  | none => none
theorem numN_len {d : Nat} {s : Bytes} {n : Int} (h : numN d s = some n) : 0 < s.length := by
  unfold numN at h
  split at h
  · cases h
  · rename_i hb
    cases s with
    | nil => exact absurd (.inl rfl) hb
    | cons c r => simp
theorem numN_sign {d : Nat} {s : Bytes} {n : Int} (h : numN d s = some n) : (s.getD 0 0).toNat = 45 ↔ ¬ 0 ≤ n := by
  unfold numN at h
  split at h
  · cases h
  rename_i hb
  split at h
  · rename_i hdg
    by_cases h45 : (s.getD 0 0).toNat = 45
    · have ea : atN s = 1 := by unfold atN; rw [if_pos h45]
      rw [ea] at h hdg
      unfold badN at hb
      rw [ea] at hb
      rw [if_pos rfl] at h
      have hn : n = -(digV 0 (s.drop 1) : Int) := by simpa using h.symm
      refine ⟨fun _ => ?_, fun _ => h45⟩
      match s, hb, hdg, h45, hn with
      | [], hb, _, h45, _ => exact absurd h45 (by decide)
      | [c], hb, _, _, _ => exact absurd (.inl rfl) hb
      | c :: b :: r', hb, hdg, _, hn =>
        have hb48 : b.toNat ≠ 48 := fun e => hb (.inr (.inr ⟨e, by simp⟩))
        have hb1 := hdg b (by simp)
        have hpos : 0 < digV 0 (b :: r') := by
          have : 10 * 0 + (b.toNat - 48) ≤ digV 0 (b :: r') := digV_mono (acc := 10 * 0 + (b.toNat - 48)) (l := r')
          unfold isDig at hb1; omega
        have hn' : n = -(digV 0 (b :: r') : Int) := hn
        omega
    · have ea : atN s = 0 := by unfold atN; rw [if_neg h45]
      rw [ea, if_neg (by decide)] at h
      have hn : n = (digV 0 (s.drop 0) : Int) := by simpa using h.symm
      exact ⟨fun e => absurd e h45, fun e => absurd (by omega : 0 ≤ n) e⟩
  · cases h
theorem numN_clean {d : Nat} {s : Bytes} {n : Int} (h : numN d s = some n) : ∀ b ∈ s, b.toNat = 45 ∨ isDig b := by
  unfold numN at h
  split at h
  · cases h
  split at h
  · rename_i hdg
    intro b hb
    by_cases h45 : (s.getD 0 0).toNat = 45
    · have ea : atN s = 1 := by unfold atN; rw [if_pos h45]
      rw [ea] at hdg
      cases s with
      | nil => simp at hb
      | cons c r =>
        rcases List.mem_cons.1 hb with rfl | hb
        · exact .inl (by simpa using h45)
        · exact .inr (hdg b (by simpa using hb))
    · have ea : atN s = 0 := by unfold atN; rw [if_neg h45]
      rw [ea] at hdg
      exact .inr (hdg b (by simpa using hb))
  · cases h
theorem wN_some {sg : Bool} {d : Nat} {s : Bytes} {n : Int} (h : wN sg d s = some n) : numN d s = some n ∧ (sg = true ∨ 0 ≤ n) := by
  unfold wN at h
  split at h
  · rename_i m hm
    split at h
    · rename_i hp
      cases h
      exact ⟨hm, hp⟩
    · cases h
  · cases h
theorem wN_pos {d : Nat} {s : Bytes} {n : Int} (h : numN d s = some n) : wN false d s = if (s.getD 0 0).toNat = 45 then none else some n := by
  unfold wN
  rw [h]
  have := numN_sign h
  by_cases h0 : 0 ≤ n
  · show (if _ then some n else none) = _
    rw [if_pos (.inr h0), if_neg (fun e => this.1 e h0)]
  · show (if _ then some n else none) = _
    rw [if_neg (by simp [h0]), if_pos (this.2 h0)]
theorem wN_none {sg : Bool} {d : Nat} {s : Bytes} (h : numN d s = none) : wN sg d s = none := by unfold wN; rw [h]
theorem wN_clean {sg : Bool} {d : Nat} {s : Bytes} {n : Int} (h : wN sg d s = some n) : ∀ b ∈ s, b.toNat = 45 ∨ isDig b := numN_clean (wN_some h).1
theorem cut_spl (s : Bytes) (c : UInt8) : (cut s [c] = (s, [], false) ∧ spl c.toNat s = [s]) ∨ ∃ a b, cut s [c] = (a, b, true) ∧ spl c.toNat s = a :: spl c.toNat b ∧ a.length ≤ s.length ∧ b.length ≤ s.length := by
  rcases spl_index c s with ⟨h1, h2⟩ | ⟨i, h1, h2, h3⟩
  · rw [← index_one] at h1
    refine .inl ⟨?_, h2⟩
    unfold cut; rw [if_neg (by rw [h1]; decide)]
  · rw [← index_one] at h2
    refine .inr ⟨s.take i, s.drop (i + 1), ?_, h3, by simp; omega, by simp⟩
    unfold cut; rw [if_pos (by rw [h2]; omega), h2]; rfl
def twoL {α β : Type} (f : Bytes → Option α) (g : Bytes → Option β) : List Bytes → Option (α × β)
  | [a, b] => (f a).bind fun x => (g b).map fun y => (x, y)
  | _ => none
def twoN {α β : Type} (c : UInt8) (f : Bytes → Option α) (g : Bytes → Option β) (s : Bytes) : Option (α × β) := twoL f g (spl c.toNat s)
def frN (s : Bytes) : Option (Int × Int) := twoN 47 (wN false 4) (wN false 4) s
def spN (s : Bytes) : Option (Int × Int × Int × Int) := (twoN 32 frN frN s).map fun p => (p.1.1, p.1.2, p.2.1, p.2.2)
theorem mem_spl {c : Nat} : ∀ {s : Bytes} {b : UInt8}, b ∈ s → b.toNat ≠ c → ∃ w ∈ spl c s, b ∈ w
  | x :: r, b, hb, hc => by
    unfold spl
    by_cases hx : x.toNat = c
    · rw [if_pos hx]
      rcases List.mem_cons.1 hb with rfl | hb
      · exact absurd hx hc
      · obtain ⟨w, h1, h2⟩ := mem_spl hb hc
        exact ⟨w, List.mem_cons_of_mem _ h1, h2⟩
    · rw [if_neg hx]
      cases hs : spl c r with
      | nil => exact absurd hs (spl_ne c r)
      | cons w ws =>
        show ∃ w' ∈ (x :: w) :: ws, b ∈ w'
        rcases List.mem_cons.1 hb with rfl | hb
        · exact ⟨b :: w, by simp, by simp⟩
        · obtain ⟨w', h1, h2⟩ := mem_spl hb hc
          rw [hs] at h1
          rcases List.mem_cons.1 h1 with rfl | h1
          · exact ⟨x :: w', by simp, by simp [h2]⟩
          · exact ⟨w', by simp [h1], h2⟩
theorem spl_one {c : Nat} : ∀ {s : Bytes}, (∀ b ∈ s, b.toNat ≠ c) → spl c s = [s]
  | [], _ => rfl
  | x :: r, h => by
    unfold spl
    rw [if_neg (h x (by simp)), spl_one fun b hb => h b (by simp [hb])]
theorem spl_two {c : Nat} {s : Bytes} {b : UInt8} (hb : b ∈ s) (hc : b.toNat = c) : ∃ x y r, spl c s = x :: y :: r := by
  induction s with
  | nil => simp at hb
  | cons x s ih =>
    unfold spl
    by_cases hx : x.toNat = c
    · rw [if_pos hx]
      cases hs : spl c s with
      | nil => exact absurd hs (spl_ne c s)
      | cons w ws => exact ⟨[], w, ws, rfl⟩
    · rw [if_neg hx]
      rcases List.mem_cons.1 hb with rfl | hb
      · exact absurd hc hx
      · obtain ⟨p, q, r, e⟩ := ih hb
        rw [e]; exact ⟨x :: p, q, r, rfl⟩
theorem twoN_no {α β : Type} {c : UInt8} {f : Bytes → Option α} {g : Bytes → Option β} {s : Bytes} (h : spl c.toNat s = [s]) : twoN c f g s = none := by unfold twoN; rw [h]; rfl
theorem twoN_at {α β : Type} {c : UInt8} {f : Bytes → Option α} {g : Bytes → Option β} (hg : ∀ s, (∃ y ∈ s, y = c) → g s = none) {s a b : Bytes} (h : spl c.toNat s = a :: spl c.toNat b) :
    twoN c f g s = (f a).bind fun x => (g b).map fun y => (x, y) := by
  unfold twoN
  rw [h]
  by_cases hb : ∃ y ∈ b, y = c
  · obtain ⟨y, hy, e⟩ := hb
    obtain ⟨p, q, r, e2⟩ := spl_two hy (congrArg UInt8.toNat e)
    rw [e2, hg b ⟨y, hy, e⟩]
    cases f a <;> rfl
  · rw [spl_one fun y hy e => hb ⟨y, hy, UInt8.toNat_inj.1 e⟩]
    rfl
theorem bind2 {α β : Type} {p : Option α} {q : Option β} : ((p.bind fun x => q.map fun y => (x, y)).isSome = (p.isSome && q.isSome)) ∧ ∀ z, (p.bind fun x => q.map fun y => (x, y)) = some z → p = some z.1 ∧ q = some z.2 := by
  cases p <;> cases q <;> refine ⟨rfl, ?_⟩ <;> rintro ⟨z1, z2⟩ h <;> simp at h
  obtain ⟨rfl, rfl⟩ := h
  exact ⟨rfl, rfl⟩
theorem part_no {s : Bytes} {c : UInt8} (h : c = 47 ∨ c = 32 ∨ c = 59) (hs : ∃ y ∈ s, y = c) : wN false 4 s = none := by
  obtain ⟨y, hy, rfl⟩ := hs
  cases hw : wN false 4 s with
  | none => rfl
  | some n =>
    have := wN_clean hw y hy
    unfold isDig at this
    exfalso
    rcases h with rfl | rfl | rfl <;> revert this <;> decide
theorem fr_no {s : Bytes} (hs : ∃ y ∈ s, y = (32 : UInt8)) : frN s = none := by
  obtain ⟨y, hy, rfl⟩ := hs
  obtain ⟨w, hw, h2⟩ := mem_spl (c := 47) hy (by decide)
  unfold frN twoN
  rw [show (47 : UInt8).toNat = 47 from rfl]
  generalize spl 47 s = l at *
  match l, hw with
  | [], hw => rfl
  | [a], hw => rfl
  | [a, b], hw =>
    have hn := part_no (s := w) (c := 32) (.inr (.inl rfl)) ⟨32, h2, rfl⟩
    simp only [List.mem_cons, List.not_mem_nil, or_false] at hw
    rcases hw with rfl | rfl
    · show (wN false 4 w).bind _ = none
      rw [hn]; rfl
    · show (wN false 4 a).bind (fun x => (wN false 4 w).map fun y => (x, y)) = none
      rw [hn]; cases wN false 4 a <;> rfl
  | a :: b :: c :: r, hw => rfl
def allO {α : Type} (f : Bytes → Option α) : List Bytes → Option (List α)
  | [] => some []
  | s :: r => match f s, allO f r with
    | some n, some t => some (n :: t)
    | _, _ => none
variable {α : Type} {f : Bytes → Option α}
theorem allO_app (a b : List Bytes) : allO f (a ++ b) = match allO f a, allO f b with
    | some x, some y => some (x ++ y)
    | _, _ => none := by
  induction a with
  | nil => show allO f b = _; cases allO f b <;> rfl
  | cons s a ih =>
    show (match f s, allO f (a ++ b) with | some n, some t => some (n :: t) | _, _ => none) = (match (match f s, allO f a with | some n, some t => some (n :: t) | _, _ => none), allO f b with | some x, some y => some (x ++ y) | _, _ => none)
    rw [ih]
    cases f s <;> cases allO f a <;> cases allO f b <;> rfl
theorem allO_one (s : Bytes) : allO f [s] = (f s).map fun n => [n] := by
  show (match f s, some [] with | some n, some t => some (n :: t) | _, _ => none) = _
  cases f s <;> rfl
theorem allO_snoc {l : List Bytes} {i : Nat} (h : i < l.length) {xs : List α} (hx : allO f (l.take i) = some xs) {n : α} (hn : f (l.getD i []) = some n) : allO f (l.take (i + 1)) = some (xs ++ [n]) := by
  rw [takeD_snoc h [], allO_app, hx, allO_one, hn]; rfl
theorem allO_bad {l : List Bytes} {i : Nat} (h : i < l.length) (hn : f (l.getD i []) = none) : allO f l = none := by
  have hs : l = l.take i ++ ([l.getD i []] ++ l.drop (i + 1)) := by
    rw [show l.getD i [] = l[i] by simp [List.getD_eq_getElem?_getD, h]]
    simp
  rw [hs, allO_app, allO_app, allO_one, hn]
  cases allO f (l.take i) <;> rfl
end Go.Plain
namespace Go.Plain
open Go.Lib
abbrev SpT : Type := Int × Int × Int × Int
def rulPre (ws : List Bytes) : Option (Int × SpT × List SpT) := match wN false 4 (ws.getD 0 []), allO spN (ws.drop 1) with
  | some e, some (q :: ch) => some (e, q, ch)
  | _, _ => none
theorem rulPre_no {ws : List Bytes} (h : wN false 4 (ws.getD 0 []) = none) : rulPre ws = none := by
  unfold rulPre; rw [h]
theorem rulPre_bad {ws : List Bytes} (h : allO spN (ws.drop 1) = none) : rulPre ws = none := by
  unfold rulPre; rw [h]
  cases wN false 4 (ws.getD 0 []) <;> rfl
theorem rulPre_nil {ws : List Bytes} (h : allO spN (ws.drop 1) = some []) : rulPre ws = none := by
  unfold rulPre; rw [h]
  cases wN false 4 (ws.getD 0 []) <;> rfl
theorem rulPre_some {ws : List Bytes} {e : Int} {q : SpT} {ch : List SpT} (h1 : wN false 4 (ws.getD 0 []) = some e) (h2 : allO spN (ws.drop 1) = some (q :: ch)) : rulPre ws = some (e, q, ch) := by
  unfold rulPre; rw [h1, h2]
theorem wN_in {sg : Bool} {d : Nat} {s : Bytes} {n : Int} (hd : d ≤ 18) (h : wN sg d s = some n) : inJ n := by
  obtain ⟨_, _, _, h4⟩ := numN_some hd (wN_some h).1
  exact h4
theorem twoN_some {α β : Type} {c : UInt8} {f : Bytes → Option α} {g : Bytes → Option β} {s : Bytes} {z : α × β} (h : twoN c f g s = some z) : (∃ a, f a = some z.1) ∧ ∃ b, g b = some z.2 := by
  unfold twoN at h
  generalize spl c.toNat s = l at *
  match l, h with
  | [a, b], h =>
    obtain ⟨h1, h2⟩ := bind2.2 z h
    exact ⟨⟨a, h1⟩, b, h2⟩
theorem frN_in {s : Bytes} {p : Int × Int} (h : frN s = some p) : inJ p.1 ∧ inJ p.2 := by
  obtain ⟨⟨a, h1⟩, b, h2⟩ := twoN_some h
  exact ⟨wN_in (by decide) h1, wN_in (by decide) h2⟩
theorem spN_in {s : Bytes} {q : SpT} (h : spN s = some q) : inJ q.1 ∧ inJ q.2.1 ∧ inJ q.2.2.1 ∧ inJ q.2.2.2 := by
  obtain ⟨z, hz, rfl⟩ := Option.map_eq_some_iff.1 h
  obtain ⟨⟨a, h1⟩, b, h2⟩ := twoN_some hz
  exact ⟨(frN_in h1).1, (frN_in h1).2, (frN_in h2).1, (frN_in h2).2⟩
theorem allO_all {α : Type} {f : Bytes → Option α} {P : α → Prop} (hP : ∀ s x, f s = some x → P x) : ∀ {l : List Bytes} {xs : List α}, allO f l = some xs → ∀ x ∈ xs, P x
  | [], xs, h => by
    have : xs = [] := by simpa [allO] using h.symm
    subst this; simp
  | s :: r, xs, h => by
    unfold allO at h
    split at h
    · rename_i n t h1 h2
      have : xs = n :: t := by simpa using h.symm
      subst this
      intro x hx
      rcases List.mem_cons.1 hx with rfl | hx
      · exact hP _ _ h1
      · exact allO_all hP h2 x hx
    · cases h
def q4 (q : SpT) : Prop := (0 ≤ q.1 ∧ q.1 ≤ 9999) ∧ (0 ≤ q.2.1 ∧ q.2.1 ≤ 9999) ∧ (0 ≤ q.2.2.1 ∧ q.2.2.1 ≤ 9999) ∧ 0 ≤ q.2.2.2 ∧ q.2.2.2 ≤ 9999
end Go.Plain
namespace Go.Plain
open Go.Lib
abbrev Str := List UInt8
def okc (j : Nat) (c : UInt8) : Prop := ((97 ≤ c.toNat ∧ c.toNat ≤ 122) ∨ (65 ≤ c.toNat ∧ c.toNat ≤ 90)) ∨ (j ≠ 0 ∧ (c.toNat = 45 ∨ (48 ≤ c.toNat ∧ c.toNat ≤ 57)))
def preN (s : Str) (i : Nat) : Prop := ∀ j < i, okc j (s.getD j 0)
def isNm (s : Str) : Prop := (1 ≤ s.length ∧ s.length ≤ 12) ∧ preN s s.length
noncomputable instance (s : Str) : Decidable (isNm s) := Classical.propDecidable _
theorem preN_succ {s : Str} {i : Nat} (h : preN s i) (k : okc i (s.getD i 0)) : preN s (i + 1) := fun j hj => by
  by_cases e : j = i
  · subst e; exact k
  · exact h j (by omega)
theorem not_nm {s : Str} {i : Nat} (h : i < s.length) (k : ¬ okc i (s.getD i 0)) : ¬ isNm s := fun n => k (n.2 i h)
def scan (f : Nat → Int) : Nat → Nat → Int × Int
  | 0, _ => (0, 0)
  | n + 1, i => if f i ≠ 0 then ((i : Int), f i) else scan f n (i + 1)
def scanA (f : Nat → Int) (n : Nat) : Int × Int := scan f n 0
theorem scan_at {f : Nat → Int} : ∀ {n i k : Nat}, i ≤ k → k < i + n → (∀ j, i ≤ j → j < k → f j = 0) → f k ≠ 0 → scan f n i = ((k : Int), f k)
  | 0, i, k, h1, h2, _, _ => by omega
  | n + 1, i, k, h1, h2, h3, h4 => by
    unfold scan
    by_cases e : i = k
    · subst e; rw [if_pos h4]
    · rw [if_neg (by simpa using h3 i (Nat.le_refl _) (by omega))]
      exact scan_at (by omega) (by omega) (fun j h5 h6 => h3 j (by omega) h6) h4
theorem scan_no {f : Nat → Int} : ∀ {n i : Nat}, (∀ j, i ≤ j → j < i + n → f j = 0) → scan f n i = (0, 0)
  | 0, _, _ => rfl
  | n + 1, i, h => by
    unfold scan
    rw [if_neg (by simpa using h i (Nat.le_refl _) (by omega))]
    exact scan_no fun j h1 h2 => h j (by omega) (by omega)
theorem scanA_at {f : Nat → Int} {n k : Nat} (h : k < n) (h0 : ∀ j < k, f j = 0) (h1 : f k ≠ 0) : scanA f n = ((k : Int), f k) := scan_at (Nat.zero_le _) (by omega) (fun j _ hj => h0 j hj) h1
theorem scanA_no {f : Nat → Int} {n : Nat} (h : ∀ j < n, f j = 0) : scanA f n = (0, 0) := scan_no fun j _ hj => h j (by omega)
theorem all_succ {f : Nat → Int} {i : Nat} (h : ∀ j < i, f j = 0) (k : f i = 0) : ∀ j < i + 1, f j = 0 := fun j hj => by
  by_cases e : j = i
  · subst e; exact k
  · exact h j (by omega)
theorem scanA_cases (f : Nat → Int) : ∀ n : Nat, (∀ j < n, f j = 0) ∨ ∃ k, k < n ∧ (∀ j < k, f j = 0) ∧ f k ≠ 0
  | 0 => .inl fun j hj => by omega
  | n + 1 => by
    rcases scanA_cases f n with h | ⟨k, h1, h2, h3⟩
    · by_cases e : f n = 0
      · exact .inl (all_succ h e)
      · exact .inr ⟨n, by omega, h, e⟩
    · exact .inr ⟨k, by omega, h2, h3⟩
theorem scanA_zero {f : Nat → Int} {n : Nat} (h : (scanA f n).2 = 0) : ∀ j < n, f j = 0 := by
  rcases scanA_cases f n with h' | ⟨k, h1, h2, h3⟩
  · exact h'
  · rw [scanA_at h1 h2 h3] at h; exact absurd h h3
def orE (a b : Int) : Int := if a ≠ 0 then a else b
theorem orE_0 (b : Int) : orE 0 b = b := by unfold orE; simp
theorem orE_no {a : Int} (h : a ≠ 0) (b : Int) : orE a b = a := if_pos h
def orP (a b : Int × Int) : Int × Int := if a.2 ≠ 0 then a else b
noncomputable def nmErr (s : Str) : Int := if isNm s then 0 else 4
noncomputable def nmAt (l : List Str) (i : Nat) : Int := orE (nmErr (l.getD i [])) (if l.getD i [] ∈ l.take i then 5 else 0)
def amE (l all : List Str) (k : Nat) : Int := if l.getD k [] ∈ all then (if l.getD k [] ∈ l.take k then 23 else 0) else 6
def among (l all : List Str) : Int := (scanA (amE l all) l.length).2
structure Ts where
  name : Str
  kind : Int
  needs : List Str
  rules : Str
  lo : Int
  hi : Int
structure Pl where
  people : List (Str × Int)
  gates : List Str
  tests : List Ts
  parts : List (Str × List Str)
  shock : Int
  life : Int
def ts0 : Ts := ⟨[], 0, [], [], 0, 0⟩
def Pl.pnames (p : Pl) : List Str := p.people.map Prod.fst
def Pl.qnames (p : Pl) : List Str := p.parts.map Prod.fst
def isImp (k : Int) : Prop := k = 1 ∨ k = 2
instance (k : Int) : Decidable (isImp k) := by unfold isImp; infer_instance
def tnm (l : List Ts) : List Str := l.map Ts.name
def limE (lo hi : Int) : Int := if ((-1000000000000000 ≤ lo ∧ lo ≤ 1000000000000000) ∧ -1000000000000000 ≤ hi ∧ hi ≤ 1000000000000000) then (if lo ≤ hi then 0 else 9) else 2
def cmpE (l : List Ts) (t : Ts) : Int := if t.kind = 2 then (if t.needs.length = 0 then 10 else if (l.getD (idxI (tnm l) (t.needs.getD 0 [])).toNat ts0).kind = 1 then 0 else 3) else 0
def tsE (re : Str → Int) (l : List Ts) (i : Nat) : Int :=
  let t := l.getD i ts0
  orE (if 0 ≤ t.kind ∧ t.kind ≤ 3 then 0 else 15) (orE (among t.needs ((tnm l).take i)) (orE (cmpE l t) (orE (if isImp t.kind then re t.rules else if t.rules = [] then 0 else 7) (limE t.lo t.hi))))
noncomputable def Pl.peopleE (p : Pl) (i : Nat) : Int := orE (nmAt p.pnames i) (if 0 ≤ (p.people.getD i ([], 0)).2 ∧ (p.people.getD i ([], 0)).2 ≤ 3 then 0 else 15)
noncomputable def Pl.testE (re : Str → Int) (p : Pl) (i : Nat) : Int := orE (nmAt (tnm p.tests) i) (tsE re p.tests i)
noncomputable def Pl.partE (p : Pl) (i : Nat) : Int := orE (nmAt p.qnames i) (among (p.parts.getD i ([], [])).2 (tnm p.tests))
def cntE (n most : Nat) : Int := if 0 < n then (if n ≤ most then 0 else 8) else 10
def mostE (n most : Nat) : Int := if n ≤ most then 0 else 8
noncomputable def Pl.err (re : Str → Int) (p : Pl) : Int × Int :=
  orP (0, cntE p.people.length 8) (orP (scanA p.peopleE p.people.length) (orP (0, cntE p.gates.length 4) (orP (scanA (nmAt p.gates) p.gates.length)
    (orP (0, mostE p.tests.length 8) (orP (scanA (p.testE re) p.tests.length) (orP (0, mostE p.parts.length 6) (orP (scanA p.partE p.parts.length)
      (0, if (0 ≤ p.shock ∧ p.shock ≤ 1000) ∧ 0 ≤ p.life ∧ p.life ≤ 1000000000000 then 0 else 2))))))))
def voidS (voids : List Str) (out : List Str) (t : Ts) : List Str := if t.name ∈ voids ∨ ∃ n ∈ t.needs, n ∈ out then out ++ [t.name] else out
def voided (l : List Ts) (voids : List Str) : List Str := l.foldl (voidS voids) []
theorem voided_take {l : List Ts} {voids : List Str} {i : Nat} (h : i < l.length) : voided (l.take (i + 1)) voids = voidS voids (voided (l.take i) voids) (l.getD i ts0) := by
  unfold voided
  rw [List.take_add_one, List.getElem?_eq_getElem h, List.foldl_append]
  simp [List.getD_eq_getElem?_getD, h]
theorem voided_len (l : List Ts) (voids : List Str) : (voided l voids).length ≤ l.length := by
  have : ∀ (l : List Ts) (out : List Str), (l.foldl (voidS voids) out).length ≤ out.length + l.length := by
    intro l
    induction l with
    | nil => intro out; simp
    | cons t l ih =>
      intro out
      have h := ih (voidS voids out t)
      have : (voidS voids out t).length ≤ out.length + 1 := by unfold voidS; split <;> simp
      simp only [List.foldl_cons, List.length_cons]
      omega
  have h := this l []
  simp only [List.length_nil, Nat.zero_add] at h
  exact h
theorem getD_at {α : Type} {l : List α} {i : Nat} {d : α} (h : i < l.length) : l.getD i d = l[i] := by simp [List.getD_eq_getElem?_getD, h]
theorem mem_succ {l : List Str} {i : Nat} {x : Str} (h : i < l.length) : x ∈ l.take (i + 1) ↔ x ∈ l.take i ∨ x = l.getD i [] := by
  rw [List.take_add_one, List.getElem?_eq_getElem h, List.mem_append, getD_at h]; simp
theorem tnm_get {l : List Ts} {i : Nat} (h : i < l.length) : (tnm l).getD i [] = (l.getD i ts0).name := by
  rw [getD_at h, getD_at (by simpa [tnm] using h)]; simp [tnm]
theorem tnm_take (l : List Ts) (i : Nat) : tnm (l.take i) = (tnm l).take i := by simp [tnm, List.map_take]
end Go.Plain
namespace Go.Plain
open Go.Lib
structure Rs where
  test : Str
  ans : Int
  entry : Int
  void : Bool
structure Gs where
  h : Int
  m : Int
  e : Int
  y : Int
  a : Int
structure Win where
  k1 : Int
  t1 : Int
  s1 : Int
  r1 : Bool
  k2 : Int
  t2 : Int
  s2 : Int
  r2 : Bool
  st : Int
structure Un where
  name : Str
  win : Win
  lots : List Str
  res : List Rs
  failed : Bool
  rel : Bool
  shaken : Bool
  used : Int
  gas : List Gs
structure Sta where
  volt : Bool
  earth : Bool
  opens : List Str
  hall : Str
  lots : List Str
  units : List Un
structure En where
  t : Int
  who : Str
  text : Str
def begin : Sta := ⟨false, true, [], [], [], []⟩
def hits (t : Str) (r : Rs) : Bool := (r.test == t) && !r.void
def lastF (l : List Rs) (t : Str) : Option Rs := l.reverse.find? (hits t)
def rs0 : Rs := ⟨[], 0, 0, false⟩
structure Evs where
  pu : Str → Win × Int
  ev : List En → Un → Ts → Str → Int × Int
structure Vb where
  role : Int
  words : Nat
  nums : Nat
  rest : Bool
def gasOk (g : Gs) : Prop := ((0 ≤ g.h ∧ g.h ≤ 1000000) ∧ (0 ≤ g.m ∧ g.m ≤ 1000000)) ∧ (0 ≤ g.e ∧ g.e ≤ 1000000) ∧ (0 ≤ g.y ∧ g.y ≤ 1000000) ∧ 0 ≤ g.a ∧ g.a ≤ 1000000
instance (g : Gs) : Decidable (gasOk g) := by unfold gasOk; infer_instance
def ageK (d t : Int) : Prop := (0 ≤ d ∧ d ≤ 200) ∧ 0 ≤ t ∧ t ≤ 100000
instance (d t : Int) : Decidable (ageK d t) := by unfold ageK; infer_instance
def printable (s : Str) : Prop := ∀ j < s.length, 32 ≤ (s.getD j 0).toNat ∧ (s.getD j 0).toNat ≤ 126
noncomputable instance (s : Str) : Decidable (printable s) := Classical.propDecidable _
end Go.Plain
