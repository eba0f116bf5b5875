/- Plain facts: decimal strings, and strings cut at a byte. -/
import Derived.Lib.AtoiAll
import Derived.Lib.ItoaNum
import Derived.Lib.Strings
import Derived.Lib.Split
import Derived.Lib.Join
import Derived.Lib.AtoiAllCases
import Derived.Test.YtggfcjiahhjcnabGreatDoorFe
namespace Go.Plain
open Go.Lib
abbrev Bytes := List UInt8
def isDig (b : UInt8) : Prop := 48 ≤ b.toNat ∧ b.toNat ≤ 57
instance (b : UInt8) : Decidable (isDig b) := inferInstanceAs (Decidable (_ ∧ _))
/-- What digits spell behind a number. -/
def digV (acc : Nat) : Bytes → Nat
  | [] => acc
  | b :: r => digV (10 * acc + (b.toNat - 48)) r
theorem digV_app (acc : Nat) (a b : Bytes) : digV acc (a ++ b) = digV (digV acc a) b := by
  induction a generalizing acc with
  | nil => rfl
  | cons x a ih => exact ih _
theorem digV_mono {acc : Nat} {l : Bytes} : acc ≤ digV acc l := by
  induction l generalizing acc with
  | nil => exact Nat.le_refl _
  | cons x l ih => exact Nat.le_trans (by omega) (ih (acc := 10 * acc + (x.toNat - 48)))
theorem digV_lt : ∀ (l : Bytes) (acc : Nat), (∀ b ∈ l, isDig b) → digV acc l < (acc + 1) * 10 ^ l.length
  | [], acc, _ => by
    show acc < (acc + 1) * 1
    omega
  | b :: l, acc, h => by
    have h1 := h b (List.mem_cons_self ..)
    have := digV_lt l (10 * acc + (b.toNat - 48)) fun x hx => h x (List.mem_cons_of_mem _ hx)
    have h0 : 10 * acc + (b.toNat - 48) + 1 ≤ (acc + 1) * 10 := by unfold isDig at h1; omega
    have h2 : (10 * acc + (b.toNat - 48) + 1) * 10 ^ l.length ≤ (acc + 1) * 10 * 10 ^ l.length := Nat.mul_le_mul_right _ h0
    rw [List.length_cons, Nat.pow_succ]
    have e : (acc + 1) * (10 ^ l.length * 10) = (acc + 1) * 10 * 10 ^ l.length := by ac_rfl
    rw [e]
    exact Nat.lt_of_lt_of_le this h2
theorem dig_byte {d : Nat} (h : d < 10) : (UInt8.ofNat (48 + d)).toNat = 48 + d := by
  simp [UInt8.toNat_ofNat]; omega
theorem dig_back {b : UInt8} (h : isDig b) : UInt8.ofNat (48 + (b.toNat - 48)) = b := by
  unfold isDig at h
  rw [show 48 + (b.toNat - 48) = b.toNat by omega]
  exact UInt8.ofNat_toNat ..
theorem dec_dig : ∀ (u : Nat), ∀ b ∈ decDigits u, isDig b := by
  intro u
  induction u using Nat.strongRecOn with
  | _ u ih =>
    intro b hb
    rw [decDigits] at hb
    split at hb
    · rw [List.mem_singleton] at hb; subst hb
      unfold isDig; rw [dig_byte (by omega)]; omega
    · rcases List.mem_append.1 hb with hb | hb
      · exact ih _ (by omega) b hb
      · rw [List.mem_singleton] at hb; subst hb
        unfold isDig; rw [dig_byte (by omega)]; omega
theorem dec_val : ∀ (u : Nat), digV 0 (decDigits u) = u := by
  intro u
  induction u using Nat.strongRecOn with
  | _ u ih =>
    rw [decDigits]
    split
    · rename_i h
      show 10 * 0 + ((UInt8.ofNat (48 + u)).toNat - 48) = u
      rw [dig_byte h]; omega
    · rename_i h
      rw [digV_app, ih _ (by omega)]
      show 10 * (u / 10) + ((UInt8.ofNat (48 + u % 10)).toNat - 48) = u
      rw [dig_byte (by omega)]; omega
theorem dec_ne (u : Nat) : decDigits u ≠ [] := by
  rw [decDigits]; split <;> simp
/-- The first digit of a number above 0 is no 0. -/
theorem dec_head : ∀ {u : Nat}, 0 < u → ∃ b r, decDigits u = b :: r ∧ b.toNat ≠ 48 := by
  intro u
  induction u using Nat.strongRecOn with
  | _ u ih =>
    intro h0
    rw [decDigits]
    split
    · rename_i h
      exact ⟨_, _, rfl, by rw [dig_byte h]; omega⟩
    · rename_i h
      obtain ⟨b, r, e, hb⟩ := ih (u / 10) (by omega) (by omega)
      exact ⟨b, r ++ [_], by rw [e]; rfl, hb⟩
/-- Digits without a 0 ahead are those of what they spell. -/
theorem dec_of : ∀ (l : Bytes) (b : UInt8) (r : Bytes), l = b :: r → (∀ x ∈ l, isDig x) → (b.toNat ≠ 48 ∨ r = []) → decDigits (digV 0 l) = l := by
  intro l
  induction h : l.length using Nat.strongRecOn generalizing l with
  | _ n ih =>
    intro b r e hd hb
    subst e
    rcases List.eq_nil_or_concat r with rfl | ⟨m, x, hr⟩
    · have hb' := hd b (List.mem_cons_self ..)
      have e : digV 0 [b] = b.toNat - 48 := by show 10 * 0 + (b.toNat - 48) = _; omega
      rw [e, decDigits, dif_pos (by unfold isDig at hb'; omega), dig_back hb']
    · rw [List.concat_eq_append] at hr
      subst hr
      have hx : isDig x := hd x (by simp)
      have hm : ∀ y ∈ b :: m, isDig y := fun y hy => hd y (by
        rcases List.mem_cons.1 hy with rfl | hy
        · simp
        · simp [hy])
      have hb1 : b.toNat ≠ 48 := by
        rcases hb with hb | hb
        · exact hb
        · simp at hb
      have i1 := ih (b :: m).length (by simp at h ⊢; omega) (b :: m) rfl b m rfl hm (.inl hb1)
      have hv : digV 0 (b :: (m ++ [x])) = 10 * digV 0 (b :: m) + (x.toNat - 48) := by
        rw [show b :: (m ++ [x]) = (b :: m) ++ [x] from rfl, digV_app]; rfl
      have hpos : 0 < digV 0 (b :: m) := by
        have h1 := hm b (List.mem_cons_self ..)
        have : 10 * 0 + (b.toNat - 48) ≤ digV 0 (b :: m) := digV_mono (acc := 10 * 0 + (b.toNat - 48)) (l := m)
        unfold isDig at h1; omega
      unfold isDig at hx
      show decDigits (digV 0 (b :: (m ++ [x]))) = _
      rw [hv, decDigits, dif_neg (by omega), show (10 * digV 0 (b :: m) + (x.toNat - 48)) / 10 = digV 0 (b :: m) by omega, show (10 * digV 0 (b :: m) + (x.toNat - 48)) % 10 = x.toNat - 48 by omega, i1, dig_back hx]
      rfl
/-! ### Numbers of strings, as the reference parses them -/
def atN (s : Bytes) : Nat := if (s.getD 0 0).toNat = 45 then 1 else 0
def badN (d : Nat) (s : Bytes) : Prop := s.length = atN s ∨ d < s.length - atN s ∨ ((s.getD (atN s) 0).toNat = 48 ∧ 1 < s.length)
instance (d : Nat) (s : Bytes) : Decidable (badN d s) := inferInstanceAs (Decidable (_ ∨ _ ∨ _))
/-- The number that a string spells with at most d digits. -/
def numN (d : Nat) (s : Bytes) : Option Int :=
  if badN d s then none else if ∀ b ∈ s.drop (atN s), isDig b then some (if atN s = 1 then -(digV 0 (s.drop (atN s)) : Int) else (digV 0 (s.drop (atN s)) : Int)) else none
theorem atN_le (s : Bytes) : atN s ≤ s.length := by
  unfold atN
  cases s with
  | nil => simp
  | cons b s => simp only [List.length_cons]; split <;> omega
theorem cut_succ {s : Bytes} {a i : Nat} (h1 : a ≤ i) (h2 : i < s.length) : (s.take (i + 1)).drop a = (s.take i).drop a ++ [s.getD i 0] := by
  have e : s.take (i + 1) = s.take i ++ [s.getD i 0] := by
    rw [List.take_succ_eq_append_getElem h2]
    simp [List.getD_eq_getElem?_getD, h2]
  rw [e, List.drop_append_of_le_length (by simp; omega)]
theorem digV_cut {s : Bytes} {a i : Nat} (h1 : a ≤ i) (h2 : i < s.length) (h3 : isDig (s.getD i 0)) : ((digV 0 ((s.take (i + 1)).drop a) : Nat) : Int) = 10 * ((digV 0 ((s.take i).drop a) : Nat) : Int) + (((s.getD i 0).toNat : Nat) - 48 : Int) := by
  rw [cut_succ h1 h2, digV_app]
  unfold isDig at h3
  show ((10 * digV 0 _ + ((s.getD i 0).toNat - 48) : Nat) : Int) = _
  omega
theorem digV_small {l : Bytes} (h : ∀ b ∈ l, isDig b) (hl : l.length ≤ 18) : (digV 0 l : Int) < 1000000000000000000 := by
  have h1 := digV_lt l 0 h
  have h2 : (0 + 1) * 10 ^ l.length ≤ 10 ^ 18 := by
    rw [Nat.zero_add, Nat.one_mul]
    exact Nat.pow_le_pow_right (by decide) hl
  have e : (10 : Nat) ^ 18 = 1000000000000000000 := by decide
  omega
theorem digV_small7 {l : Bytes} (h : ∀ b ∈ l, isDig b) (hl : l.length ≤ 17) : (digV 0 l : Int) < 100000000000000000 := by
  have h1 := digV_lt l 0 h
  have h2 : (0 + 1) * 10 ^ l.length ≤ 10 ^ 17 := by
    rw [Nat.zero_add, Nat.one_mul]
    exact Nat.pow_le_pow_right (by decide) hl
  have e : (10 : Nat) ^ 17 = 100000000000000000 := by decide
  omega
/-! ### Cut at a byte, as the reference cuts -/
def cutP (s : Bytes) (c : Nat) : Nat → List Bytes × Nat
  | 0 => ([], 0)
  | i + 1 => if (s.getD i 0).toNat = c then ((cutP s c i).1 ++ [(s.take i).drop (cutP s c i).2], i + 1) else cutP s c i
def cutR (s : Bytes) (c : Nat) : List Bytes := (cutP s c s.length).1 ++ [s.drop (cutP s c s.length).2]
theorem cutP_le (s : Bytes) (c : Nat) : ∀ i, (cutP s c i).2 ≤ i ∧ (cutP s c i).1.length ≤ i
  | 0 => ⟨Nat.le_refl _, Nat.le_refl _⟩
  | i + 1 => by
    obtain ⟨h1, h2⟩ := cutP_le s c i
    unfold cutP
    split
    · exact ⟨Nat.le_refl _, by simp; omega⟩
    · exact ⟨by omega, by omega⟩
end Go.Plain

/- Plain facts: the place of a word, words as numbers. -/
namespace Go.Plain
open Go.Lib
def idxI (l : List Bytes) (x : Bytes) : Int := if x ∈ l then (l.idxOf x : Int) else -1
theorem idxI_no {l : List Bytes} {x : Bytes} (h : x ∉ l) : idxI l x = -1 := by unfold idxI; rw [if_neg h]
theorem idxI_at {l : List Bytes} {x : Bytes} {i : Nat} (h : i < l.length) (e : l[i] = x) (hno : x ∉ l.take i) : idxI l x = i := by
  have hm : x ∈ l := by rw [← e]; exact List.getElem_mem h
  unfold idxI
  rw [if_pos hm]
  have : l.idxOf x = i := by
    have hs : l = l.take i ++ x :: l.drop (i + 1) := by
      rw [← e, List.getElem_cons_drop h, List.take_append_drop]
    rw [hs, List.idxOf_append, if_neg hno, List.idxOf_cons_self]
    simp; omega
  rw [this]
/-- What a word is, if it is a number of at most three digits; words as numbers. -/
def numsN : List Bytes → Option (List Int)
  | [] => some []
  | s :: r => match numN 3 s, numsN r with
    | some n, some t => some (n :: t)
    | _, _ => none
theorem numsN_app (a b : List Bytes) : numsN (a ++ b) = match numsN a, numsN b with
    | some x, some y => some (x ++ y)
    | _, _ => none := by
  induction a with
  | nil => show numsN b = _; cases numsN b <;> rfl
  | cons s a ih =>
    show (match numN 3 s, numsN (a ++ b) with | some n, some t => some (n :: t) | _, _ => none) = (match (match numN 3 s, numsN a with | some n, some t => some (n :: t) | _, _ => none), numsN b with | some x, some y => some (x ++ y) | _, _ => none)
    rw [ih]
    cases numN 3 s <;> cases numsN a <;> cases numsN b <;> rfl
theorem numsN_snoc {l : List Bytes} {i : Nat} (h : i < l.length) {xs : List Int} (hx : numsN (l.take i) = some xs) {n : Int} (hn : numN 3 (l.getD i []) = some n) : numsN (l.take (i + 1)) = some (xs ++ [n]) := by
  rw [List.take_add_one, List.getElem?_eq_getElem h, numsN_app, hx]
  have : l.getD i [] = l[i] := by simp [List.getD_eq_getElem?_getD, h]
  rw [this] at hn
  show (match some xs, numsN [l[i]] with | some x, some y => some (x ++ y) | _, _ => none) = _
  have : numsN [l[i]] = some [n] := by unfold numsN; rw [hn]; rfl
  rw [this]
theorem numsN_bad {l : List Bytes} {i : Nat} (h : i < l.length) (hn : numN 3 (l.getD i []) = none) : numsN l = none := by
  have hs : l = l.take i ++ l[i] :: l.drop (i + 1) := by
    rw [List.getElem_cons_drop h, List.take_append_drop]
  have : l.getD i [] = l[i] := by simp [List.getD_eq_getElem?_getD, h]
  rw [this] at hn
  rw [hs, numsN_app]
  have e : numsN (l[i] :: l.drop (i + 1)) = none := by unfold numsN; rw [hn]
  rw [e]
  cases numsN (l.take i) <;> rfl
theorem numsN_len : ∀ {l : List Bytes} {xs : List Int}, numsN l = some xs → xs.length = l.length
  | [], xs, h => by
    have : xs = [] := by simpa [numsN] using h.symm
    simp [this]
  | s :: r, xs, h => by
    unfold numsN at h
    split at h
    · rename_i n t h1 h2
      have : xs = n :: t := by simpa using h.symm
      rw [this, List.length_cons, List.length_cons, numsN_len h2]
    · cases h
end Go.Plain

/- Plain facts: a word is a number of at most d digits just if Atoi reads it, Itoa prints it so, and it is short. -/
namespace Go.Plain
open Go.Lib
theorem pu_dig : ∀ (l : Bytes) (acc : Nat), (∀ b ∈ l, isDig b) → digV acc l < 1000000000000000000 → parseUint10 acc l = .ok (digV acc l)
  | [], _, _, _ => rfl
  | c :: r, acc, h, hl => by
    have hc := h c (List.mem_cons_self ..)
    have h1 : 10 * acc + (c.toNat - 48) ≤ digV (10 * acc + (c.toNat - 48)) r := digV_mono
    have h2 : digV (10 * acc + (c.toNat - 48)) r < 1000000000000000000 := hl
    have ih := pu_dig r (10 * acc + (c.toNat - 48)) (fun b hb => h b (List.mem_cons_of_mem _ hb)) h2
    unfold isDig at hc
    show (if 48 ≤ c.toNat ∧ c.toNat ≤ 57 then if 1844674407370955162 ≤ acc then _ else if 18446744073709551616 ≤ acc * 10 + (c.toNat - 48) then _ else parseUint10 (acc * 10 + (c.toNat - 48)) r else _) = _
    rw [if_pos hc, if_neg (by omega), if_neg (by omega), Nat.mul_comm acc 10, ih]
    rfl
theorem pm_dig {l : Bytes} (h0 : l ≠ []) (h : ∀ b ∈ l, isDig b) (hl : l.length ≤ 18) : parseMag l = .ok (digV 0 l) := by
  unfold parseMag
  rw [if_neg h0]
  exact pu_dig l 0 h (by have := digV_small h hl; omega)
theorem b45 {c : UInt8} (h : c.toNat = 45) : c = 45 := UInt8.toNat_inj.1 h
theorem trim_neg (r : Bytes) : trimPrefix (45 :: r) [45] = r := by
  simp [trimPrefix, hasPrefix]
theorem trim_pos {c : UInt8} (h : c.toNat ≠ 45) (r : Bytes) : trimPrefix (c :: r) [45] = c :: r := by
  have : ¬ (45 : UInt8) = c := fun e => h (by rw [← e]; rfl)
  simp [trimPrefix, hasPrefix, List.isPrefixOf, this]
theorem numN_some {d : Nat} {s : Bytes} {n : Int} (hd : d ≤ 18) (h : numN d s = some n) : atoiAll s = .ok n ∧ itoa n = s ∧ (trimPrefix s [45]).length ≤ d ∧ -9223372036854775808 ≤ n ∧ n ≤ 9223372036854775807 := by
  unfold numN at h
  split at h
  · cases h
  rename_i hb
  split at h
  · rename_i hdg
    cases s with
    | nil => exact absurd (.inl rfl) hb
    | cons c r =>
      by_cases h45 : c.toNat = 45
      · have hc := b45 h45
        subst hc
        have ea : atN (45 :: r) = 1 := rfl
        unfold badN at hb
        rw [ea] at h hb hdg
        simp only [List.length_cons, List.drop_succ_cons, List.drop_zero] at hb hdg h
        simp only [if_true] at h
        have hn : n = -(digV 0 r : Int) := by simpa using h.symm
        cases r with
        | nil => exact absurd (.inl rfl) hb
        | cons b r' =>
          have hb48 : b.toNat ≠ 48 := by
            intro e
            exact hb (.inr (.inr ⟨e, by simp⟩))
          have hlen : (b :: r').length ≤ d := by
            simp only [List.length_cons] at hb ⊢; omega
          have hb1 := hdg b (List.mem_cons_self ..)
          have hpos : 0 < digV 0 (b :: r') := by
            have : 10 * 0 + (b.toNat - 48) ≤ digV 0 (b :: r') := digV_mono (acc := 10 * 0 + (b.toNat - 48)) (l := r')
            unfold isDig at hb1; omega
          have hsm := digV_small hdg (by omega)
          refine ⟨?_, ?_, ?_, ?_⟩
          · rw [atoiAll_minus, pm_dig (by simp) hdg (by omega), hn]
            unfold signed
            dsimp only
            rw [if_neg (by omega)]
          · unfold itoa
            rw [if_pos (by omega), hn]
            have : (-(digV 0 (b :: r') : Int)).natAbs = digV 0 (b :: r') := by omega
            rw [this, dec_of _ b r' rfl hdg (.inl hb48)]
          · rw [trim_neg]; exact hlen
          · omega
      · have ea : atN (c :: r) = 0 := by unfold atN; rw [if_neg (by simpa using h45)]
        unfold badN at hb
        rw [ea] at h hb hdg
        simp only [List.length_cons, List.drop_zero] at hb hdg h
        simp only [Nat.zero_ne_one, if_false] at h
        have hn : n = (digV 0 (c :: r) : Int) := by simpa using h.symm
        have hc1 := hdg c (List.mem_cons_self ..)
        have hc48 : c.toNat ≠ 48 ∨ r = [] := by
          by_cases e : c.toNat = 48
          · right
            cases r with
            | nil => rfl
            | cons b r' => exact absurd (.inr (.inr ⟨by simpa using e, by simp⟩)) hb
          · exact .inl e
        have hlen : (c :: r).length ≤ d := by
          simp only [List.length_cons] at hb ⊢; omega
        have hsm := digV_small hdg (by omega)
        refine ⟨?_, ?_, ?_, ?_⟩
        · rw [atoiAll_plain c r (by unfold isDig at hc1; omega) h45, pm_dig (by simp) hdg (by omega), hn]
          unfold signless
          dsimp only
          rw [if_neg (by omega)]
        · unfold itoa
          rw [if_neg (by omega), hn]
          have : ((digV 0 (c :: r) : Nat) : Int).toNat = digV 0 (c :: r) := by omega
          rw [this, dec_of _ c r rfl hdg hc48]
        · rw [trim_pos h45]; exact hlen
        · omega
  · cases h
theorem numN_back {d : Nat} {n : Int} (h2 : (trimPrefix (itoa n) [45]).length ≤ d) : numN d (itoa n) = some n := by
  unfold itoa at *
  split at h2
  · rename_i h
    rw [trim_neg] at h2
    obtain ⟨b, r, e, hb⟩ := dec_head (u := n.natAbs) (by omega)
    have hdg := dec_dig n.natAbs
    have hv := dec_val n.natAbs
    rw [if_pos h]
    have ea : atN (45 :: decDigits n.natAbs) = 1 := rfl
    have hbad : ¬ badN d (45 :: decDigits n.natAbs) := by
      unfold badN
      rw [ea]
      rintro (h1 | h1 | ⟨h1, _⟩)
      · rw [e] at h1; simp at h1
      · simp only [List.length_cons] at h1; omega
      · rw [e] at h1; exact hb (by simpa using h1)
    unfold numN
    rw [if_neg hbad, ea]
    simp only [List.drop_succ_cons, List.drop_zero, if_true]
    rw [if_pos hdg, hv]
    congr 1; omega
  · rename_i h
    have hdg := dec_dig n.toNat
    have hv := dec_val n.toNat
    rw [if_neg h]
    have hne := dec_ne n.toNat
    obtain ⟨b, r, e⟩ : ∃ b r, decDigits n.toNat = b :: r := by
      cases hh : decDigits n.toNat with
      | nil => exact absurd hh hne
      | cons b r => exact ⟨b, r, rfl⟩
    have hb1 := hdg b (by rw [e]; exact List.mem_cons_self ..)
    have h45 : b.toNat ≠ 45 := by unfold isDig at hb1; omega
    rw [e, trim_pos h45, ← e] at h2
    have ea : atN (decDigits n.toNat) = 0 := by rw [e]; unfold atN; rw [if_neg (by simpa using h45)]
    have hbad : ¬ badN d (decDigits n.toNat) := by
      unfold badN
      rw [ea]
      rintro (h1 | h1 | ⟨h1, h3⟩)
      · rw [e] at h1; simp at h1
      · omega
      · rw [e] at h1 h3
        by_cases h0 : 0 < n.toNat
        · obtain ⟨b', r', e', hb'⟩ := dec_head h0
          rw [e] at e'
          injection e' with e1 e2
          subst e1
          exact hb' (by simpa using h1)
        · have : n.toNat = 0 := by omega
          rw [this] at e
          have : decDigits 0 = [48] := by rw [decDigits]; rfl
          rw [this] at e
          injection e with e1 e2
          rw [← e2] at h3
          simp at h3
    unfold numN
    rw [if_neg hbad, ea]
    simp only [Nat.zero_ne_one, List.drop_zero, if_false]
    rw [if_pos hdg, hv]
    congr 1; omega
theorem numN_none {d : Nat} {s : Bytes} (h : numN d s = none) {v : Int} : ¬ (itoa v = s ∧ (trimPrefix s [45]).length ≤ d) := by
  rintro ⟨h1, h2⟩
  subst h1
  rw [numN_back h2] at h
  cases h
end Go.Plain

/- Plain facts: a window's string. -/
namespace Go.Plain
open Go.Lib
theorem nDigits_le : ∀ (k u : Nat), u < 10 ^ (k + 1) → nDigits u ≤ k + 1
  | 0, u, h => by rw [nDigits_small (by omega)]; omega
  | k + 1, u, h => by
    by_cases h9 : u < 10
    · rw [nDigits_small h9]; omega
    · rw [nDigits_big h9]
      have := nDigits_le k (u / 10) (by rw [Nat.pow_succ] at h; omega)
      omega
theorem itoa_len {n : Int} (h : -9223372036854775808 ≤ n ∧ n ≤ 9223372036854775807) : (itoa n).length ≤ 20 := by
  unfold itoa
  split
  · rw [List.length_cons, decDigits_length]
    have := nDigits_le 18 n.natAbs (by have : (10 : Nat) ^ (18 + 1) = 10000000000000000000 := by decide
                                       omega)
    omega
  · rw [decDigits_length]
    have := nDigits_le 18 n.toNat (by have : (10 : Nat) ^ (18 + 1) = 10000000000000000000 := by decide
                                      omega)
    omega
/-- The words of a window. -/
def wordsW (a b : List Int) : List Bytes := a.map itoa ++ [59] :: b.map itoa
def fmtW (a b : List Int) : Bytes := join (wordsW a b) [32]
def catA (a : List Int) : Bytes := (a.map fun n => itoa n ++ [32]).flatten
def catB (b : List Int) : Bytes := (b.map fun n => 32 :: itoa n).flatten
theorem fmtW_eq (a b : List Int) : fmtW a b = catA a ++ [59] ++ catB b := by
  unfold fmtW wordsW
  induction a with
  | nil =>
    show join ([59] :: b.map itoa) [32] = _
    rw [join_cons]
    have : joinTail [32] (b.map itoa) = catB b := by
      unfold joinTail catB
      rw [List.map_map]; rfl
    rw [this]; rfl
  | cons n a ih =>
    have hne : a.map itoa ++ [59] :: b.map itoa ≠ [] := by simp
    obtain ⟨y, r, e⟩ : ∃ y r, a.map itoa ++ [59] :: b.map itoa = y :: r := by
      cases h : a.map itoa ++ [59] :: b.map itoa with
      | nil => exact absurd h hne
      | cons y r => exact ⟨y, r, rfl⟩
    have e1 : (n :: a).map itoa ++ [59] :: b.map itoa = itoa n :: (y :: r) := by rw [List.map_cons, List.cons_append, e]
    rw [e1, join_cons]
    rw [e, join_cons] at ih
    have e2 : joinTail [32] (y :: r) = [32] ++ (y ++ joinTail [32] r) := by
      unfold joinTail
      rw [List.map_cons, List.flatten_cons]
      simp
    rw [e2, ih]
    show itoa n ++ ([32] ++ (catA a ++ [59] ++ catB b)) = ((itoa n ++ [32]) ++ catA a) ++ [59] ++ catB b
    simp
def inJ (n : Int) : Prop := -9223372036854775808 ≤ n ∧ n ≤ 9223372036854775807
theorem catA_len : ∀ {a : List Int}, (∀ n ∈ a, inJ n) → (catA a).length ≤ 21 * a.length
  | [], _ => by simp [catA]
  | n :: a, h => by
    have h1 := itoa_len (h n (List.mem_cons_self ..))
    have h2 := catA_len (a := a) fun x hx => h x (List.mem_cons_of_mem _ hx)
    have : catA (n :: a) = itoa n ++ [32] ++ catA a := rfl
    rw [this]; simp only [List.length_append, List.length_cons, List.length_nil]; omega
theorem catB_len : ∀ {a : List Int}, (∀ n ∈ a, inJ n) → (catB a).length ≤ 21 * a.length
  | [], _ => by simp [catB]
  | n :: a, h => by
    have h1 := itoa_len (h n (List.mem_cons_self ..))
    have h2 := catB_len (a := a) fun x hx => h x (List.mem_cons_of_mem _ hx)
    have : catB (n :: a) = (32 :: itoa n) ++ catB a := rfl
    rw [this]; simp only [List.length_append, List.length_cons]; omega
theorem takeD_snoc {α : Type} {l : List α} {i : Nat} (h : i < l.length) (d : α) : l.take (i + 1) = l.take i ++ [l.getD i d] := by
  rw [List.take_add_one, List.getElem?_eq_getElem h]
  simp [List.getD_eq_getElem?_getD, h]
theorem catA_snoc {l : List Int} {i : Nat} (h : i < l.length) : catA (l.take (i + 1)) = catA (l.take i) ++ itoa (l.getD i 0) ++ [32] := by
  rw [takeD_snoc h 0]; unfold catA; simp
theorem catB_snoc {l : List Int} {i : Nat} (h : i < l.length) : catB (l.take (i + 1)) = catB (l.take i) ++ [32] ++ itoa (l.getD i 0) := by
  rw [takeD_snoc h 0]; unfold catB; simp
theorem words_snoc {l : List Int} {i : Nat} (h : i < l.length) : (l.take (i + 1)).map itoa = (l.take i).map itoa ++ [itoa (l.getD i 0)] := by
  rw [takeD_snoc h 0]; simp
theorem getD_in {l : List Int} {P : Int → Prop} (hl : ∀ n ∈ l, P n) {i : Nat} (h : i < l.length) : P (l.getD i 0) := by
  rw [show l.getD i 0 = l[i] by simp [List.getD_eq_getElem?_getD, h]]
  exact hl _ (List.getElem_mem h)
theorem take_in {l : List Int} {P : Int → Prop} (hl : ∀ n ∈ l, P n) {i : Nat} : ∀ n ∈ l.take i, P n := fun n hn => hl n (List.mem_of_mem_take hn)
end Go.Plain

/- Plain facts: a string cut at a byte: three ways that agree. -/
namespace Go.Plain
open Go.Lib
def spl (c : Nat) : Bytes → List Bytes
  | [] => [[]]
  | b :: r => if b.toNat = c then [] :: spl c r else match spl c r with
    | w :: ws => (b :: w) :: ws
    | [] => [[b]]
theorem spl_ne (c : Nat) : ∀ s, spl c s ≠ []
  | [] => by simp [spl]
  | b :: r => by
    unfold spl
    split
    · simp
    · split <;> simp
theorem spl_index (c : UInt8) : ∀ s : Bytes, (indexByte s c = -1 ∧ spl c.toNat s = [s]) ∨ ∃ i : Nat, i < s.length ∧ indexByte s c = i ∧ spl c.toNat s = s.take i :: spl c.toNat (s.drop (i + 1))
  | [] => .inl ⟨rfl, rfl⟩
  | b :: r => by
    by_cases hb : b = c
    · subst hb
      refine .inr ⟨0, by simp, ?_, ?_⟩
      · unfold indexByte; rw [if_pos (by simp)]; rfl
      · show (if b.toNat = b.toNat then _ else _) = _
        rw [if_pos rfl]; rfl
    · have hb' : ¬ b.toNat = c.toNat := fun e => hb (UInt8.toNat_inj.1 e)
      rcases spl_index c r with ⟨h1, h2⟩ | ⟨i, h1, h2, h3⟩
      · refine .inl ⟨?_, ?_⟩
        · unfold indexByte; rw [if_neg (by simpa using hb), if_pos (by simpa using h1)]
        · unfold spl; rw [if_neg hb', h2]
      · refine .inr ⟨i + 1, by simpa using h1, ?_, ?_⟩
        · unfold indexByte; rw [if_neg (by simpa using hb), h2, if_neg (by simp <;> omega)]; first | omega | rfl
        · show (if b.toNat = c.toNat then _ else match spl c.toNat r with | w :: ws => (b :: w) :: ws | [] => [[b]]) = _
          rw [if_neg hb', h3]; rfl
theorem spl_splitK (c : UInt8) : ∀ (n : Nat) (s : Bytes), s.length ≤ n → splitK [c] 0 (count s [c]) s = spl c.toNat s ∧ (spl c.toNat s).length = count s [c] + 1
  | n, s, hn => by
    rcases spl_index c s with ⟨h1, h2⟩ | ⟨i, h1, h2, h3⟩
    · rw [← index_one] at h1
      rw [count_miss h1, h2]
      exact ⟨rfl, rfl⟩
    · rw [← index_one] at h2
      rw [count_hit (by simp) h2, h3, Nat.add_comm 1]
      have hl : (s.drop (i + 1)).length < s.length := by simp; omega
      cases n with
      | zero => omega
      | succ n =>
        have ih := spl_splitK c n (s.drop (i + 1)) (by omega)
        simp only [List.length_cons, List.length_nil, Nat.zero_add]
        refine ⟨?_, by rw [ih.2]⟩
        show (if (index s [c] == -1) = true then _ else _) = _
        rw [if_neg (by rw [h2]; simp <;> omega), h2]
        simp only [List.length_cons, List.length_nil, Nat.zero_add, Int.toNat_natCast, Nat.add_zero]
        rw [ih.1]
theorem cutS_spl (s : Bytes) (c : UInt8) : Go.Fw.cutS s c = spl c.toNat s ∧ (Go.Fw.cutS s c).length = countB (Go.Fw.B s) (Go.Fw.B [c]) + 1 := by
  have e : countB (Go.Fw.B s) (Go.Fw.B [c]) = count s [c] := by
    show count (Go.Fw.B s).data.toList (Go.Fw.B [c]).data.toList = _
    rw [Go.Fw.B_data, Go.Fw.B_data]
  have h := spl_splitK c s.length s (Nat.le_refl _)
  unfold Go.Fw.cutS
  rw [e, h.1]
  exact ⟨rfl, h.2⟩
theorem spl_snoc (c : Nat) (b : UInt8) : ∀ (t : Bytes) (ps : List Bytes) (w : Bytes), spl c t = ps ++ [w] → spl c (t ++ [b]) = if b.toNat = c then ps ++ [w] ++ [[]] else ps ++ [w ++ [b]]
  | [], ps, w, h => by
    have h' : [[]] = ps ++ [w] := h
    have : ps = [] ∧ w = [] := by
      cases ps with
      | nil => exact ⟨rfl, by simpa using h'.symm⟩
      | cons p ps => simp at h'
    obtain ⟨rfl, rfl⟩ := this
    show (if b.toNat = c then [] :: [[]] else _) = _
    split <;> rfl
  | x :: t, ps, w, h => by
    by_cases hx : x.toNat = c
    · have h1 : [] :: spl c t = ps ++ [w] := by rw [← h]; exact (if_pos hx).symm
      cases ps with
      | nil =>
        have := spl_ne c t
        simp at h1; exact absurd h1.2 this
      | cons p ps =>
        have h2 : p = [] ∧ spl c t = ps ++ [w] := by simpa [eq_comm] using h1
        have ih := spl_snoc c b t ps w h2.2
        show (if x.toNat = c then [] :: spl c (t ++ [b]) else _) = _
        rw [if_pos hx, ih, h2.1]
        split <;> rfl
    · have hne := spl_ne c t
      cases hs : spl c t with
      | nil => exact absurd hs hne
      | cons w0 ws =>
        have h1 : (x :: w0) :: ws = ps ++ [w] := by
          rw [← h]
          show _ = (if x.toNat = c then _ else match spl c t with | w :: ws => (x :: w) :: ws | [] => [[x]])
          rw [if_neg hx, hs]
        have go : ∀ u us, spl c (t ++ [b]) = u :: us → spl c (x :: t ++ [b]) = (x :: u) :: us := by
          intro u us e
          show (if x.toNat = c then _ else match spl c (t ++ [b]) with | w :: ws => (x :: w) :: ws | [] => [[x]]) = _
          rw [if_neg hx, e]
        cases ps with
        | nil =>
          have h2 : x :: w0 = w ∧ ws = [] := by simpa using h1
          obtain ⟨rfl, rfl⟩ := h2
          have ih := spl_snoc c b t [] w0 (by rw [hs]; rfl)
          split
          · rename_i hb; rw [if_pos hb] at ih; exact go _ _ ih
          · rename_i hb; rw [if_neg hb] at ih; exact go _ _ ih
        | cons p ps =>
          have h2 : x :: w0 = p ∧ ws = ps ++ [w] := by simpa using h1
          obtain ⟨rfl, rfl⟩ := h2
          have ih := spl_snoc c b t (w0 :: ps) w (by rw [hs]; rfl)
          split
          · rename_i hb; rw [if_pos hb] at ih; exact go _ _ ih
          · rename_i hb; rw [if_neg hb] at ih; exact go _ _ ih
theorem cutP_spl (s : Bytes) (c : Nat) : ∀ i, i ≤ s.length → spl c (s.take i) = (cutP s c i).1 ++ [(s.take i).drop (cutP s c i).2]
  | 0, _ => by simp [spl, cutP]
  | i + 1, h => by
    have ih := cutP_spl s c i (by omega)
    have h2 := (cutP_le s c i).1
    have e : s.take (i + 1) = s.take i ++ [s.getD i 0] := by
      have := cut_succ (s := s) (a := 0) (i := i) (Nat.zero_le _) (by omega)
      simpa using this
    have hs := spl_snoc c (s.getD i 0) (s.take i) _ _ ih
    rw [e, hs]
    show _ = (if (s.getD i 0).toNat = c then ((cutP s c i).1 ++ [(s.take i).drop (cutP s c i).2], i + 1) else cutP s c i).1 ++ [(s.take i ++ [s.getD i 0]).drop (if (s.getD i 0).toNat = c then ((cutP s c i).1 ++ [(s.take i).drop (cutP s c i).2], i + 1) else cutP s c i).2]
    by_cases hc : (s.getD i 0).toNat = c
    · simp only [if_pos hc]
      have : (s.take i ++ [s.getD i 0]).drop (i + 1) = [] := by
        rw [List.drop_eq_nil_of_le]; simp; omega
      rw [this]
    · simp only [if_neg hc]
      rw [← e, cut_succ h2 (by omega)]
theorem cutR_spl (s : Bytes) (c : Nat) : cutR s c = spl c s := by
  have := cutP_spl s c s.length (Nat.le_refl _)
  rw [List.take_length] at this
  exact this.symm
theorem spl_clean {c : Nat} : ∀ {w : Bytes}, (∀ b ∈ w, b.toNat ≠ c) → spl c w = [w] ∧ ∀ d r, d.toNat = c → spl c (w ++ d :: r) = w :: spl c r
  | [], _ => ⟨rfl, fun d r hd => by show (if d.toNat = c then _ else _) = _; rw [if_pos hd]⟩
  | b :: w, h => by
    have ih := spl_clean (c := c) (w := w) fun x hx => h x (List.mem_cons_of_mem _ hx)
    have hb := h b (List.mem_cons_self ..)
    refine ⟨?_, fun d r hd => ?_⟩
    · unfold spl; rw [if_neg hb, ih.1]
    · show (if b.toNat = c then _ else match spl c (w ++ d :: r) with | w :: ws => (b :: w) :: ws | [] => [[b]]) = _
      rw [if_neg hb, ih.2 d r hd]
theorem spl_join : ∀ (x : Bytes) (l : List Bytes), (∀ w ∈ x :: l, ∀ b ∈ w, b.toNat ≠ 32) → spl 32 (join (x :: l) [32]) = x :: l
  | x, [], h => by
    rw [join_one]
    exact (spl_clean (h x (List.mem_cons_self ..))).1
  | x, y :: l, h => by
    have ih := spl_join y l fun w hw => h w (List.mem_cons_of_mem _ hw)
    have e : join (x :: y :: l) [32] = x ++ 32 :: join (y :: l) [32] := by
      rw [join_cons, join_cons]
      unfold joinTail
      rw [List.map_cons, List.flatten_cons]
      simp
    rw [e, (spl_clean (h x (List.mem_cons_self ..))).2 32 _ rfl, ih]
theorem spl_len (c : Nat) : ∀ s : Bytes, (spl c s).length ≤ s.length + 1 ∧ ∀ w ∈ spl c s, w.length ≤ s.length
  | [] => by simp [spl]
  | b :: r => by
    have ih := spl_len c r
    unfold spl
    split
    · refine ⟨by simp; omega, fun w hw => ?_⟩
      rcases List.mem_cons.1 hw with rfl | hw
      · simp
      · have := ih.2 w hw; simp; omega
    · cases hs : spl c r with
      | nil => exact absurd hs (spl_ne c r)
      | cons w0 ws =>
        rw [hs] at ih
        refine ⟨by have := ih.1; simp at this ⊢; omega, fun w hw => ?_⟩
        rcases List.mem_cons.1 hw with rfl | hw
        · have := ih.2 w0 (List.mem_cons_self ..); simp; omega
        · have := ih.2 w (List.mem_cons_of_mem _ hw); simp; omega
end Go.Plain

/- Plain facts: numbers without a sign, fractions, spans, and lists of words. -/
namespace Go.Plain
open Go.Lib
/-- A number of at most d digits, without a sign if sg is false. -/
def wN (sg : Bool) (d : Nat) (s : Bytes) : Option Int := match numN d s with
  | some n => if sg = true ∨ 0 ≤ n then some n else none
  | none => none
theorem numN_len {d : Nat} {s : Bytes} {n : Int} (h : numN d s = some n) : 0 < s.length := by
  unfold numN at h
  split at h
  · cases h
  · rename_i hb
    cases s with
    | nil => exact absurd (.inl rfl) hb
    | cons c r => simp
theorem numN_sign {d : Nat} {s : Bytes} {n : Int} (h : numN d s = some n) : (s.getD 0 0).toNat = 45 ↔ ¬ 0 ≤ n := by
  unfold numN at h
  split at h
  · cases h
  rename_i hb
  split at h
  · rename_i hdg
    by_cases h45 : (s.getD 0 0).toNat = 45
    · have ea : atN s = 1 := by unfold atN; rw [if_pos h45]
      rw [ea] at h hdg
      unfold badN at hb
      rw [ea] at hb
      rw [if_pos rfl] at h
      have hn : n = -(digV 0 (s.drop 1) : Int) := by simpa using h.symm
      refine ⟨fun _ => ?_, fun _ => h45⟩
      match s, hb, hdg, h45, hn with
      | [], hb, _, h45, _ => exact absurd h45 (by decide)
      | [c], hb, _, _, _ => exact absurd (.inl rfl) hb
      | c :: b :: r', hb, hdg, _, hn =>
        have hb48 : b.toNat ≠ 48 := fun e => hb (.inr (.inr ⟨e, by simp⟩))
        have hb1 := hdg b (by simp)
        have hpos : 0 < digV 0 (b :: r') := by
          have : 10 * 0 + (b.toNat - 48) ≤ digV 0 (b :: r') := digV_mono (acc := 10 * 0 + (b.toNat - 48)) (l := r')
          unfold isDig at hb1; omega
        have hn' : n = -(digV 0 (b :: r') : Int) := hn
        omega
    · have ea : atN s = 0 := by unfold atN; rw [if_neg h45]
      rw [ea, if_neg (by decide)] at h
      have hn : n = (digV 0 (s.drop 0) : Int) := by simpa using h.symm
      exact ⟨fun e => absurd e h45, fun e => absurd (by omega : 0 ≤ n) e⟩
  · cases h
theorem numN_clean {d : Nat} {s : Bytes} {n : Int} (h : numN d s = some n) : ∀ b ∈ s, b.toNat = 45 ∨ isDig b := by
  unfold numN at h
  split at h
  · cases h
  split at h
  · rename_i hdg
    intro b hb
    by_cases h45 : (s.getD 0 0).toNat = 45
    · have ea : atN s = 1 := by unfold atN; rw [if_pos h45]
      rw [ea] at hdg
      cases s with
      | nil => simp at hb
      | cons c r =>
        rcases List.mem_cons.1 hb with rfl | hb
        · exact .inl (by simpa using h45)
        · exact .inr (hdg b (by simpa using hb))
    · have ea : atN s = 0 := by unfold atN; rw [if_neg h45]
      rw [ea] at hdg
      exact .inr (hdg b (by simpa using hb))
  · cases h
theorem wN_some {sg : Bool} {d : Nat} {s : Bytes} {n : Int} (h : wN sg d s = some n) : numN d s = some n ∧ (sg = true ∨ 0 ≤ n) := by
  unfold wN at h
  split at h
  · rename_i m hm
    split at h
    · rename_i hp
      cases h
      exact ⟨hm, hp⟩
    · cases h
  · cases h
theorem wN_pos {d : Nat} {s : Bytes} {n : Int} (h : numN d s = some n) : wN false d s = if (s.getD 0 0).toNat = 45 then none else some n := by
  unfold wN
  rw [h]
  have := numN_sign h
  by_cases h0 : 0 ≤ n
  · show (if _ then some n else none) = _
    rw [if_pos (.inr h0), if_neg (fun e => this.1 e h0)]
  · show (if _ then some n else none) = _
    rw [if_neg (by simp [h0]), if_pos (this.2 h0)]
theorem wN_none {sg : Bool} {d : Nat} {s : Bytes} (h : numN d s = none) : wN sg d s = none := by unfold wN; rw [h]
theorem wN_true (d : Nat) (s : Bytes) : wN true d s = numN d s := by
  unfold wN
  cases numN d s <;> simp
theorem wN_clean {sg : Bool} {d : Nat} {s : Bytes} {n : Int} (h : wN sg d s = some n) : ∀ b ∈ s, b.toNat = 45 ∨ isDig b := numN_clean (wN_some h).1
theorem wN_nil {sg : Bool} {d : Nat} : wN sg d [] = none := by
  refine wN_none ?_
  unfold numN; rw [if_pos (.inl rfl)]
theorem cut_spl (s : Bytes) (c : UInt8) : (cut s [c] = (s, [], false) ∧ spl c.toNat s = [s]) ∨ ∃ a b, cut s [c] = (a, b, true) ∧ spl c.toNat s = a :: spl c.toNat b ∧ a.length ≤ s.length ∧ b.length ≤ s.length := by
  rcases spl_index c s with ⟨h1, h2⟩ | ⟨i, h1, h2, h3⟩
  · rw [← index_one] at h1
    refine .inl ⟨?_, h2⟩
    unfold cut; rw [if_neg (by rw [h1]; decide)]
  · rw [← index_one] at h2
    refine .inr ⟨s.take i, s.drop (i + 1), ?_, h3, by simp; omega, by simp⟩
    unfold cut; rw [if_pos (by rw [h2]; omega), h2]; rfl
/-- Two parts, each read. -/
def twoL {α β : Type} (f : Bytes → Option α) (g : Bytes → Option β) : List Bytes → Option (α × β)
  | [a, b] => (f a).bind fun x => (g b).map fun y => (x, y)
  | _ => none
def twoN {α β : Type} (c : UInt8) (f : Bytes → Option α) (g : Bytes → Option β) (s : Bytes) : Option (α × β) := twoL f g (spl c.toNat s)
def frN (s : Bytes) : Option (Int × Int) := twoN 47 (wN false 4) (wN false 4) s
def spN (s : Bytes) : Option (Int × Int × Int × Int) := (twoN 32 frN frN s).map fun p => (p.1.1, p.1.2, p.2.1, p.2.2)
theorem mem_spl {c : Nat} : ∀ {s : Bytes} {b : UInt8}, b ∈ s → b.toNat ≠ c → ∃ w ∈ spl c s, b ∈ w
  | x :: r, b, hb, hc => by
    unfold spl
    by_cases hx : x.toNat = c
    · rw [if_pos hx]
      rcases List.mem_cons.1 hb with rfl | hb
      · exact absurd hx hc
      · obtain ⟨w, h1, h2⟩ := mem_spl hb hc
        exact ⟨w, List.mem_cons_of_mem _ h1, h2⟩
    · rw [if_neg hx]
      cases hs : spl c r with
      | nil => exact absurd hs (spl_ne c r)
      | cons w ws =>
        show ∃ w' ∈ (x :: w) :: ws, b ∈ w'
        rcases List.mem_cons.1 hb with rfl | hb
        · exact ⟨b :: w, by simp, by simp⟩
        · obtain ⟨w', h1, h2⟩ := mem_spl hb hc
          rw [hs] at h1
          rcases List.mem_cons.1 h1 with rfl | h1
          · exact ⟨x :: w', by simp, by simp [h2]⟩
          · exact ⟨w', by simp [h1], h2⟩
theorem spl_one {c : Nat} : ∀ {s : Bytes}, (∀ b ∈ s, b.toNat ≠ c) → spl c s = [s]
  | [], _ => rfl
  | x :: r, h => by
    unfold spl
    rw [if_neg (h x (by simp)), spl_one fun b hb => h b (by simp [hb])]
theorem spl_two {c : Nat} {s : Bytes} {b : UInt8} (hb : b ∈ s) (hc : b.toNat = c) : ∃ x y r, spl c s = x :: y :: r := by
  induction s with
  | nil => simp at hb
  | cons x s ih =>
    unfold spl
    by_cases hx : x.toNat = c
    · rw [if_pos hx]
      cases hs : spl c s with
      | nil => exact absurd hs (spl_ne c s)
      | cons w ws => exact ⟨[], w, ws, rfl⟩
    · rw [if_neg hx]
      rcases List.mem_cons.1 hb with rfl | hb
      · exact absurd hc hx
      · obtain ⟨p, q, r, e⟩ := ih hb
        rw [e]; exact ⟨x :: p, q, r, rfl⟩
theorem twoN_no {α β : Type} {c : UInt8} {f : Bytes → Option α} {g : Bytes → Option β} {s : Bytes} (h : spl c.toNat s = [s]) : twoN c f g s = none := by unfold twoN; rw [h]; rfl
theorem twoN_at {α β : Type} {c : UInt8} {f : Bytes → Option α} {g : Bytes → Option β} (hg : ∀ s, (∃ y ∈ s, y = c) → g s = none) {s a b : Bytes} (h : spl c.toNat s = a :: spl c.toNat b) :
    twoN c f g s = (f a).bind fun x => (g b).map fun y => (x, y) := by
  unfold twoN
  rw [h]
  by_cases hb : ∃ y ∈ b, y = c
  · obtain ⟨y, hy, e⟩ := hb
    obtain ⟨p, q, r, e2⟩ := spl_two hy (congrArg UInt8.toNat e)
    rw [e2, hg b ⟨y, hy, e⟩]
    cases f a <;> rfl
  · rw [spl_one fun y hy e => hb ⟨y, hy, UInt8.toNat_inj.1 e⟩]
    rfl
theorem bind2 {α β : Type} {p : Option α} {q : Option β} : ((p.bind fun x => q.map fun y => (x, y)).isSome = (p.isSome && q.isSome)) ∧ ∀ z, (p.bind fun x => q.map fun y => (x, y)) = some z → p = some z.1 ∧ q = some z.2 := by
  cases p <;> cases q <;> refine ⟨rfl, ?_⟩ <;> rintro ⟨z1, z2⟩ h <;> simp at h
  obtain ⟨rfl, rfl⟩ := h
  exact ⟨rfl, rfl⟩
theorem part_no {s : Bytes} {c : UInt8} (h : c = 47 ∨ c = 32 ∨ c = 59) (hs : ∃ y ∈ s, y = c) : wN false 4 s = none := by
  obtain ⟨y, hy, rfl⟩ := hs
  cases hw : wN false 4 s with
  | none => rfl
  | some n =>
    have := wN_clean hw y hy
    unfold isDig at this
    exfalso
    rcases h with rfl | rfl | rfl <;> revert this <;> decide
theorem fr_no {s : Bytes} (hs : ∃ y ∈ s, y = (32 : UInt8)) : frN s = none := by
  obtain ⟨y, hy, rfl⟩ := hs
  obtain ⟨w, hw, h2⟩ := mem_spl (c := 47) hy (by decide)
  unfold frN twoN
  rw [show (47 : UInt8).toNat = 47 from rfl]
  generalize spl 47 s = l at *
  match l, hw with
  | [], hw => rfl
  | [a], hw => rfl
  | [a, b], hw =>
    have hn := part_no (s := w) (c := 32) (.inr (.inl rfl)) ⟨32, h2, rfl⟩
    simp only [List.mem_cons, List.not_mem_nil, or_false] at hw
    rcases hw with rfl | rfl
    · show (wN false 4 w).bind _ = none
      rw [hn]; rfl
    · show (wN false 4 a).bind (fun x => (wN false 4 w).map fun y => (x, y)) = none
      rw [hn]; cases wN false 4 a <;> rfl
  | a :: b :: c :: r, hw => rfl
/-- All words read. -/
def allO {α : Type} (f : Bytes → Option α) : List Bytes → Option (List α)
  | [] => some []
  | s :: r => match f s, allO f r with
    | some n, some t => some (n :: t)
    | _, _ => none
variable {α : Type} {f : Bytes → Option α}
theorem allO_app (a b : List Bytes) : allO f (a ++ b) = match allO f a, allO f b with
    | some x, some y => some (x ++ y)
    | _, _ => none := by
  induction a with
  | nil => show allO f b = _; cases allO f b <;> rfl
  | cons s a ih =>
    show (match f s, allO f (a ++ b) with | some n, some t => some (n :: t) | _, _ => none) = (match (match f s, allO f a with | some n, some t => some (n :: t) | _, _ => none), allO f b with | some x, some y => some (x ++ y) | _, _ => none)
    rw [ih]
    cases f s <;> cases allO f a <;> cases allO f b <;> rfl
theorem allO_one (s : Bytes) : allO f [s] = (f s).map fun n => [n] := by
  show (match f s, some [] with | some n, some t => some (n :: t) | _, _ => none) = _
  cases f s <;> rfl
theorem allO_snoc {l : List Bytes} {i : Nat} (h : i < l.length) {xs : List α} (hx : allO f (l.take i) = some xs) {n : α} (hn : f (l.getD i []) = some n) : allO f (l.take (i + 1)) = some (xs ++ [n]) := by
  rw [takeD_snoc h [], allO_app, hx, allO_one, hn]; rfl
theorem allO_bad {l : List Bytes} {i : Nat} (h : i < l.length) (hn : f (l.getD i []) = none) : allO f l = none := by
  have hs : l = l.take i ++ ([l.getD i []] ++ l.drop (i + 1)) := by
    rw [show l.getD i [] = l[i] by simp [List.getD_eq_getElem?_getD, h]]
    simp
  rw [hs, allO_app, allO_app, allO_one, hn]
  cases allO f (l.take i) <;> rfl
theorem allO_len : ∀ {l : List Bytes} {xs : List α}, allO f l = some xs → xs.length = l.length
  | [], xs, h => by
    have : xs = [] := by simpa [allO] using h.symm
    simp [this]
  | s :: r, xs, h => by
    unfold allO at h
    split at h
    · rename_i n t h1 h2
      have : xs = n :: t := by simpa using h.symm
      rw [this, List.length_cons, List.length_cons, allO_len h2]
    · cases h
theorem allO_id {g : α → Bytes} : ∀ {l : List α}, (∀ x ∈ l, f (g x) = some x) → allO f (l.map g) = some l
  | [], _ => rfl
  | x :: l, h => by
    show (match f (g x), allO f (l.map g) with | some n, some t => some (n :: t) | _, _ => none) = _
    rw [h x (by simp), allO_id fun y hy => h y (by simp [hy])]
end Go.Plain

/- Plain facts: the strings of records and rules, and what their words are. -/
namespace Go.Plain
open Go.Lib
def recPre : List Bytes → Option (Int × List Int)
  | [] => some (0, [])
  | w :: r => match wN false 7 w, allO (numN 7) r with
    | some a, some b => some (a, b)
    | _, _ => none
theorem recPre_cons (w : Bytes) (r : List Bytes) : recPre (w :: r) = (wN false 7 w).bind fun a => (allO (numN 7) r).map fun b => (a, b) := by
  show (match wN false 7 w, allO (numN 7) r with | some a, some b => some (a, b) | _, _ => none) = _
  cases wN false 7 w <;> cases allO (numN 7) r <;> rfl
theorem recPre_len {ws : List Bytes} {st : Int} {l : List Int} (h : recPre ws = some (st, l)) : l.length ≤ ws.length := by
  unfold recPre at h
  split at h
  · cases h; simp
  · rename_i w r
    split at h
    · rename_i a b h1 h2
      cases h
      have := allO_len h2
      simp; omega
    · cases h
theorem recPre_zero {ws : List Bytes} (h : 0 < ws.length) {n : Int} (hn : wN false 7 (ws.getD 0 []) = some n) : recPre (ws.take 1) = some (n, []) := by
  cases ws with
  | nil => simp at h
  | cons w r =>
    have hn' : wN false 7 w = some n := hn
    show recPre [w] = _
    rw [recPre_cons, hn']; rfl
theorem recPre_snoc {ws : List Bytes} {i : Nat} (h0 : 0 < i) (h : i < ws.length) {st : Int} {l : List Int} (hx : recPre (ws.take i) = some (st, l)) {n : Int} (hn : numN 7 (ws.getD i []) = some n) : recPre (ws.take (i + 1)) = some (st, l ++ [n]) := by
  cases ws with
  | nil => simp at h
  | cons w r =>
    obtain ⟨j, rfl⟩ : ∃ j, i = j + 1 := ⟨i - 1, by omega⟩
    have h' : j < r.length := by simpa using h
    have hx' : (match wN false 7 w, allO (numN 7) (r.take j) with | some a, some b => some (a, b) | _, _ => none) = some (st, l) := hx
    have hn' : numN 7 (r.getD j []) = some n := by simpa using hn
    show (match wN false 7 w, allO (numN 7) (r.take (j + 1)) with | some a, some b => some (a, b) | _, _ => none) = _
    cases h1 : wN false 7 w with
    | none => simp only [h1] at hx'; cases hx'
    | some a =>
      cases h2 : allO (numN 7) (r.take j) with
      | none => simp only [h1, h2] at hx'; cases hx'
      | some b =>
        simp only [h1, h2] at hx'
        cases hx'
        rw [allO_snoc h' h2 hn']
theorem recPre_bad {ws : List Bytes} {i : Nat} (h : i < ws.length) (hn : (if i = 0 then wN false 7 (ws.getD i []) else numN 7 (ws.getD i [])) = none) : recPre ws = none := by
  cases ws with
  | nil => simp at h
  | cons w r =>
    rw [recPre_cons]
    by_cases h0 : i = 0
    · subst h0
      rw [if_pos rfl] at hn
      have hn' : wN false 7 w = none := hn
      rw [hn']; rfl
    · obtain ⟨j, rfl⟩ : ∃ j, i = j + 1 := ⟨i - 1, by omega⟩
      rw [if_neg h0] at hn
      have h' : j < r.length := by simpa using h
      have hn' : numN 7 (r.getD j []) = none := by simpa using hn
      rw [allO_bad h' hn']
      cases wN false 7 w <;> rfl
abbrev SpT : Type := Int × Int × Int × Int
def rulPre (ws : List Bytes) : Option (Int × SpT × List SpT) := match wN false 4 (ws.getD 0 []), allO spN (ws.drop 1) with
  | some e, some (q :: ch) => some (e, q, ch)
  | _, _ => none
theorem rulPre_no {ws : List Bytes} (h : wN false 4 (ws.getD 0 []) = none) : rulPre ws = none := by
  unfold rulPre; rw [h]
theorem rulPre_bad {ws : List Bytes} (h : allO spN (ws.drop 1) = none) : rulPre ws = none := by
  unfold rulPre; rw [h]
  cases wN false 4 (ws.getD 0 []) <;> rfl
theorem rulPre_nil {ws : List Bytes} (h : allO spN (ws.drop 1) = some []) : rulPre ws = none := by
  unfold rulPre; rw [h]
  cases wN false 4 (ws.getD 0 []) <;> rfl
theorem rulPre_some {ws : List Bytes} {e : Int} {q : SpT} {ch : List SpT} (h1 : wN false 4 (ws.getD 0 []) = some e) (h2 : allO spN (ws.drop 1) = some (q :: ch)) : rulPre ws = some (e, q, ch) := by
  unfold rulPre; rw [h1, h2]
theorem wN_in {sg : Bool} {d : Nat} {s : Bytes} {n : Int} (hd : d ≤ 18) (h : wN sg d s = some n) : inJ n := by
  obtain ⟨_, _, _, h4⟩ := numN_some hd (wN_some h).1
  exact h4
theorem twoN_some {α β : Type} {c : UInt8} {f : Bytes → Option α} {g : Bytes → Option β} {s : Bytes} {z : α × β} (h : twoN c f g s = some z) : (∃ a, f a = some z.1) ∧ ∃ b, g b = some z.2 := by
  unfold twoN at h
  generalize spl c.toNat s = l at *
  match l, h with
  | [a, b], h =>
    obtain ⟨h1, h2⟩ := bind2.2 z h
    exact ⟨⟨a, h1⟩, b, h2⟩
theorem frN_in {s : Bytes} {p : Int × Int} (h : frN s = some p) : inJ p.1 ∧ inJ p.2 := by
  obtain ⟨⟨a, h1⟩, b, h2⟩ := twoN_some h
  exact ⟨wN_in (by decide) h1, wN_in (by decide) h2⟩
theorem spN_in {s : Bytes} {q : SpT} (h : spN s = some q) : inJ q.1 ∧ inJ q.2.1 ∧ inJ q.2.2.1 ∧ inJ q.2.2.2 := by
  obtain ⟨z, hz, rfl⟩ := Option.map_eq_some_iff.1 h
  obtain ⟨⟨a, h1⟩, b, h2⟩ := twoN_some hz
  exact ⟨(frN_in h1).1, (frN_in h1).2, (frN_in h2).1, (frN_in h2).2⟩
theorem allO_all {α : Type} {f : Bytes → Option α} {P : α → Prop} (hP : ∀ s x, f s = some x → P x) : ∀ {l : List Bytes} {xs : List α}, allO f l = some xs → ∀ x ∈ xs, P x
  | [], xs, h => by
    have : xs = [] := by simpa [allO] using h.symm
    subst this; simp
  | s :: r, xs, h => by
    unfold allO at h
    split at h
    · rename_i n t h1 h2
      have : xs = n :: t := by simpa using h.symm
      subst this
      intro x hx
      rcases List.mem_cons.1 hx with rfl | hx
      · exact hP _ _ h1
      · exact allO_all hP h2 x hx
    · cases h
/-! ### Strings -/
def fmtRec (st : Int) (l : List Int) : Bytes := itoa st ++ catB l
theorem fmtRec_join (st : Int) (l : List Int) : fmtRec st l = join ((st :: l).map itoa) [32] := by
  rw [List.map_cons, join_cons]
  unfold fmtRec catB joinTail
  rw [List.map_map]; rfl
def frS (a b : Int) : Bytes := itoa a ++ [47] ++ itoa b
def spS (q : SpT) : Bytes := frS q.1 q.2.1 ++ [32] ++ frS q.2.2.1 q.2.2.2
def catS (l : List SpT) : Bytes := (l.map fun s => 59 :: spS s).flatten
def fmtRul (e : Int) (q : SpT) (ch : List SpT) : Bytes := itoa e ++ [59] ++ spS q ++ catS ch
theorem fmtRul_join (e : Int) (q : SpT) (ch : List SpT) : fmtRul e q ch = join (itoa e :: (q :: ch).map spS) [59] := by
  rw [join_cons]
  unfold fmtRul catS joinTail
  rw [List.map_map]
  show _ = itoa e ++ ((q :: ch).map fun s => 59 :: spS s).flatten
  rw [List.map_cons, List.flatten_cons]
  simp
theorem catS_snoc {l : List SpT} {i : Nat} (h : i < l.length) : catS (l.take (i + 1)) = catS (l.take i) ++ [59] ++ spS (l.getD i (0, 0, 0, 0)) := by
  rw [takeD_snoc h (0, 0, 0, 0)]; unfold catS; simp
abbrev inQ (q : SpT) : Prop := inJ q.1 ∧ inJ q.2.1 ∧ inJ q.2.2.1 ∧ inJ q.2.2.2
theorem spS_len {q : SpT} (h : inQ q) : (spS q).length ≤ 83 := by
  obtain ⟨h1, h2, h3, h4⟩ := h
  have := itoa_len h1
  have := itoa_len h2
  have := itoa_len h3
  have := itoa_len h4
  unfold spS frS
  simp only [List.length_append, List.length_cons, List.length_nil]; omega
theorem catS_len : ∀ {l : List SpT}, (∀ q ∈ l, inQ q) → (catS l).length ≤ 84 * l.length
  | [], _ => by simp [catS]
  | q :: l, h => by
    have h1 := spS_len (h q (List.mem_cons_self ..))
    have h2 := catS_len (l := l) fun x hx => h x (List.mem_cons_of_mem _ hx)
    have : catS (q :: l) = 59 :: spS q ++ catS l := rfl
    rw [this]; simp only [List.length_append, List.length_cons]; omega
theorem fmtRec_len {st : Int} {l : List Int} (h1 : inJ st) (h2 : ∀ n ∈ l, inJ n) : (fmtRec st l).length ≤ 20 + 21 * l.length := by
  have := itoa_len h1
  have := catB_len h2
  unfold fmtRec; rw [List.length_append]; omega
theorem fmtRul_len {e : Int} {q : SpT} {ch : List SpT} (h1 : inJ e) (h2 : inQ q) (h3 : ∀ q ∈ ch, inQ q) : (fmtRul e q ch).length ≤ 104 + 84 * ch.length := by
  have := itoa_len h1
  have := spS_len h2
  have := catS_len h3
  unfold fmtRul; simp only [List.length_append, List.length_cons, List.length_nil]; omega
/-! ### Read back -/
theorem itoa_bytes (n : Int) : ∀ x ∈ itoa n, x.toNat = 45 ∨ isDig x := by
  intro x hx
  unfold itoa at hx
  split at hx
  · rcases List.mem_cons.1 hx with rfl | hx
    · exact .inl rfl
    · exact .inr (dec_dig _ x hx)
  · exact .inr (dec_dig _ x hx)
theorem itoa_no (n : Int) {c : Nat} (hc : c = 47 ∨ c = 32 ∨ c = 59) : ∀ x ∈ itoa n, x.toNat ≠ c := by
  intro x hx
  have := itoa_bytes n x hx
  unfold isDig at this
  omega
theorem trim_leQ (s : Bytes) : (trimPrefix s [45]).length ≤ s.length := by
  unfold trimPrefix; split <;> simp
theorem itoa_shortQ {n : Int} {k : Nat} (h : n.natAbs < 10 ^ (k + 1)) : (trimPrefix (itoa n) [45]).length ≤ k + 1 := by
  unfold itoa
  split
  · rw [trim_neg, decDigits_length]
    exact nDigits_le k _ h
  · refine Nat.le_trans (trim_leQ _) ?_
    rw [decDigits_length]
    exact nDigits_le k _ (by omega)
theorem num7_back {n : Int} (h : -9999999 ≤ n ∧ n ≤ 9999999) : numN 7 (itoa n) = some n := by
  have e : (10 : Nat) ^ (6 + 1) = 10000000 := by decide
  exact numN_back (itoa_shortQ (k := 6) (by omega))
theorem w7_back {n : Int} (h : 0 ≤ n ∧ n ≤ 9999999) : wN false 7 (itoa n) = some n := by
  unfold wN
  rw [num7_back (by omega)]
  show (if _ then some n else none) = _
  rw [if_pos (.inr h.1)]
theorem w4_back {n : Int} (h : 0 ≤ n ∧ n ≤ 9999) : wN false 4 (itoa n) = some n := by
  unfold wN
  have e : (10 : Nat) ^ (3 + 1) = 10000 := by decide
  rw [numN_back (itoa_shortQ (k := 3) (by omega))]
  show (if _ then some n else none) = _
  rw [if_pos (.inr h.1)]
theorem spl_joinC {c : UInt8} : ∀ (x : Bytes) (l : List Bytes), (∀ w ∈ x :: l, ∀ b ∈ w, b.toNat ≠ c.toNat) → spl c.toNat (join (x :: l) [c]) = x :: l
  | x, [], h => by
    rw [join_one]
    exact (spl_clean (h x (List.mem_cons_self ..))).1
  | x, y :: l, h => by
    have ih := spl_joinC y l fun w hw => h w (List.mem_cons_of_mem _ hw)
    have e : join (x :: y :: l) [c] = x ++ c :: join (y :: l) [c] := by
      rw [join_cons, join_cons]
      unfold joinTail
      rw [List.map_cons, List.flatten_cons]
      simp
    rw [e, (spl_clean (h x (List.mem_cons_self ..))).2 c _ rfl, ih]
theorem rec_back {st : Int} {l : List Int} (h1 : 0 ≤ st ∧ st ≤ 9999999) (h2 : ∀ n ∈ l, -9999999 ≤ n ∧ n ≤ 9999999) : recPre (spl 32 (fmtRec st l)) = some (st, l) := by
  have e := spl_joinC (c := 32) (itoa st) (l.map itoa) (by
    intro w hw b hb
    rw [← List.map_cons (f := itoa)] at hw
    obtain ⟨n, _, rfl⟩ := List.mem_map.1 hw
    exact itoa_no n (.inr (.inl rfl)) b hb)
  rw [fmtRec_join, List.map_cons]
  rw [show (32 : UInt8).toNat = 32 from rfl] at e
  rw [e, recPre_cons]
  rw [w7_back h1, allO_id fun n hn => num7_back (h2 n hn)]
  rfl
def q4 (q : SpT) : Prop := (0 ≤ q.1 ∧ q.1 ≤ 9999) ∧ (0 ≤ q.2.1 ∧ q.2.1 ≤ 9999) ∧ (0 ≤ q.2.2.1 ∧ q.2.2.1 ≤ 9999) ∧ 0 ≤ q.2.2.2 ∧ q.2.2.2 ≤ 9999
theorem fr_back {a b : Int} (h1 : 0 ≤ a ∧ a ≤ 9999) (h2 : 0 ≤ b ∧ b ≤ 9999) : frN (frS a b) = some (a, b) := by
  unfold frN twoN frS
  rw [show (47 : UInt8).toNat = 47 from rfl, List.append_assoc]
  show twoL _ _ (spl 47 (itoa a ++ 47 :: itoa b)) = _
  rw [(spl_clean (itoa_no a (.inl rfl))).2 47 _ rfl, (spl_clean (itoa_no b (.inl rfl))).1]
  show (wN false 4 (itoa a)).bind (fun x => (wN false 4 (itoa b)).map fun y => (x, y)) = _
  rw [w4_back h1, w4_back h2]; rfl
theorem frS_no (a b : Int) {c : Nat} (hc : c = 32 ∨ c = 59) : ∀ x ∈ frS a b, x.toNat ≠ c := by
  intro x hx
  unfold frS at hx
  simp only [List.mem_append, List.mem_singleton] at hx
  rcases hx with (hx | rfl) | hx
  · exact itoa_no a (.inr hc) x hx
  · rcases hc with rfl | rfl <;> decide
  · exact itoa_no b (.inr hc) x hx
theorem sp_back {q : SpT} (h : q4 q) : spN (spS q) = some q := by
  obtain ⟨h1, h2, h3, h4⟩ := h
  unfold spN twoN spS
  rw [show (32 : UInt8).toNat = 32 from rfl, List.append_assoc]
  have e : spl 32 (frS q.1 q.2.1 ++ ([32] ++ frS q.2.2.1 q.2.2.2)) = [frS q.1 q.2.1, frS q.2.2.1 q.2.2.2] := by
    show spl 32 (frS q.1 q.2.1 ++ 32 :: frS q.2.2.1 q.2.2.2) = _
    rw [(spl_clean (frS_no _ _ (.inl rfl))).2 32 _ rfl, (spl_clean (frS_no _ _ (.inl rfl))).1]
  rw [e]
  show ((frN (frS q.1 q.2.1)).bind (fun x => (frN (frS q.2.2.1 q.2.2.2)).map fun y => (x, y))).map _ = _
  rw [fr_back h1 h2, fr_back h3 h4]; rfl
theorem spS_no (q : SpT) : ∀ x ∈ spS q, x.toNat ≠ 59 := by
  intro x hx
  unfold spS at hx
  simp only [List.mem_append, List.mem_singleton] at hx
  rcases hx with (hx | rfl) | hx
  · exact frS_no _ _ (.inr rfl) x hx
  · decide
  · exact frS_no _ _ (.inr rfl) x hx
theorem rul_back {e : Int} {q : SpT} {ch : List SpT} (h1 : 0 ≤ e ∧ e ≤ 9999) (h2 : ∀ s ∈ q :: ch, q4 s) : rulPre (spl 59 (fmtRul e q ch)) = some (e, q, ch) := by
  have hs := spl_joinC (c := 59) (itoa e) ((q :: ch).map spS) (by
    intro w hw b hb
    rcases List.mem_cons.1 hw with rfl | hw
    · exact itoa_no e (.inr (.inr rfl)) b hb
    · obtain ⟨s, _, rfl⟩ := List.mem_map.1 hw
      exact spS_no s b hb)
  rw [show (59 : UInt8).toNat = 59 from rfl] at hs
  rw [fmtRul_join, hs]
  unfold rulPre
  have e1 : (itoa e :: (q :: ch).map spS).getD 0 [] = itoa e := rfl
  have e2 : (itoa e :: (q :: ch).map spS).drop 1 = (q :: ch).map spS := rfl
  rw [e1, e2, w4_back h1, allO_id fun s hs => sp_back (h2 s hs)]
end Go.Plain
