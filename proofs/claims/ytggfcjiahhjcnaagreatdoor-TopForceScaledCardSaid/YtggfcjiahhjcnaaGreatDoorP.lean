/- Plain facts: decimal strings, and strings cut at a byte. -/
import Derived.Lib.AtoiAll
import Derived.Lib.ItoaNum
import Derived.Lib.Strings
import Derived.Lib.Split
import Derived.Lib.Join
import Derived.Lib.AtoiAllCases
import Derived.Test.YtggfcjiahhjcnaaGreatDoorFe
import Derived.Test.YtggfcjiahhjcnaaGreatDoorM
namespace Go.Plain
open Go.Lib
abbrev Bytes := List UInt8
def isDig (b : UInt8) : Prop := 48 ≤ b.toNat ∧ b.toNat ≤ 57
instance (b : UInt8) : Decidable (isDig b) := inferInstanceAs (Decidable (_ ∧ _))
/-- What digits spell behind a number. -/
def digV (acc : Nat) : Bytes → Nat
  | [] => acc
  | b :: r => digV (10 * acc + (b.toNat - 48)) r
theorem digV_app (acc : Nat) (a b : Bytes) : digV acc (a ++ b) = digV (digV acc a) b := by
  induction a generalizing acc with
  | nil => rfl
  | cons x a ih => exact ih _
theorem digV_mono {acc : Nat} {l : Bytes} : acc ≤ digV acc l := by
  induction l generalizing acc with
  | nil => exact Nat.le_refl _
  | cons x l ih => exact Nat.le_trans (by omega) (ih (acc := 10 * acc + (x.toNat - 48)))
theorem digV_lt : ∀ (l : Bytes) (acc : Nat), (∀ b ∈ l, isDig b) → digV acc l < (acc + 1) * 10 ^ l.length
  | [], acc, _ => by
    show acc < (acc + 1) * 1
    omega
  | b :: l, acc, h => by
    have h1 := h b (List.mem_cons_self ..)
    have := digV_lt l (10 * acc + (b.toNat - 48)) fun x hx => h x (List.mem_cons_of_mem _ hx)
    have h0 : 10 * acc + (b.toNat - 48) + 1 ≤ (acc + 1) * 10 := by unfold isDig at h1; omega
    have h2 : (10 * acc + (b.toNat - 48) + 1) * 10 ^ l.length ≤ (acc + 1) * 10 * 10 ^ l.length := Nat.mul_le_mul_right _ h0
    rw [List.length_cons, Nat.pow_succ]
    have e : (acc + 1) * (10 ^ l.length * 10) = (acc + 1) * 10 * 10 ^ l.length := by ac_rfl
    rw [e]
    exact Nat.lt_of_lt_of_le this h2
theorem dig_byte {d : Nat} (h : d < 10) : (UInt8.ofNat (48 + d)).toNat = 48 + d := by
  simp [UInt8.toNat_ofNat]; omega
theorem dig_back {b : UInt8} (h : isDig b) : UInt8.ofNat (48 + (b.toNat - 48)) = b := by
  unfold isDig at h
  rw [show 48 + (b.toNat - 48) = b.toNat by omega]
  exact UInt8.ofNat_toNat ..
theorem dec_dig : ∀ (u : Nat), ∀ b ∈ decDigits u, isDig b := by
  intro u
  induction u using Nat.strongRecOn with
  | _ u ih =>
    intro b hb
    rw [decDigits] at hb
    split at hb
    · rw [List.mem_singleton] at hb; subst hb
      unfold isDig; rw [dig_byte (by omega)]; omega
    · rcases List.mem_append.1 hb with hb | hb
      · exact ih _ (by omega) b hb
      · rw [List.mem_singleton] at hb; subst hb
        unfold isDig; rw [dig_byte (by omega)]; omega
theorem dec_val : ∀ (u : Nat), digV 0 (decDigits u) = u := by
  intro u
  induction u using Nat.strongRecOn with
  | _ u ih =>
    rw [decDigits]
    split
    · rename_i h
      show 10 * 0 + ((UInt8.ofNat (48 + u)).toNat - 48) = u
      rw [dig_byte h]; omega
    · rename_i h
      rw [digV_app, ih _ (by omega)]
      show 10 * (u / 10) + ((UInt8.ofNat (48 + u % 10)).toNat - 48) = u
      rw [dig_byte (by omega)]; omega
theorem dec_ne (u : Nat) : decDigits u ≠ [] := by
  rw [decDigits]; split <;> simp
/-- The first digit of a number above 0 is no 0. -/
theorem dec_head : ∀ {u : Nat}, 0 < u → ∃ b r, decDigits u = b :: r ∧ b.toNat ≠ 48 := by
  intro u
  induction u using Nat.strongRecOn with
  | _ u ih =>
    intro h0
    rw [decDigits]
    split
    · rename_i h
      exact ⟨_, _, rfl, by rw [dig_byte h]; omega⟩
    · rename_i h
      obtain ⟨b, r, e, hb⟩ := ih (u / 10) (by omega) (by omega)
      exact ⟨b, r ++ [_], by rw [e]; rfl, hb⟩
/-- Digits without a 0 ahead are those of what they spell. -/
theorem dec_of : ∀ (l : Bytes) (b : UInt8) (r : Bytes), l = b :: r → (∀ x ∈ l, isDig x) → (b.toNat ≠ 48 ∨ r = []) → decDigits (digV 0 l) = l := by
  intro l
  induction h : l.length using Nat.strongRecOn generalizing l with
  | _ n ih =>
    intro b r e hd hb
    subst e
    rcases List.eq_nil_or_concat r with rfl | ⟨m, x, hr⟩
    · have hb' := hd b (List.mem_cons_self ..)
      have e : digV 0 [b] = b.toNat - 48 := by show 10 * 0 + (b.toNat - 48) = _; omega
      rw [e, decDigits, dif_pos (by unfold isDig at hb'; omega), dig_back hb']
    · rw [List.concat_eq_append] at hr
      subst hr
      have hx : isDig x := hd x (by simp)
      have hm : ∀ y ∈ b :: m, isDig y := fun y hy => hd y (by
        rcases List.mem_cons.1 hy with rfl | hy
        · simp
        · simp [hy])
      have hb1 : b.toNat ≠ 48 := by
        rcases hb with hb | hb
        · exact hb
        · simp at hb
      have i1 := ih (b :: m).length (by simp at h ⊢; omega) (b :: m) rfl b m rfl hm (.inl hb1)
      have hv : digV 0 (b :: (m ++ [x])) = 10 * digV 0 (b :: m) + (x.toNat - 48) := by
        rw [show b :: (m ++ [x]) = (b :: m) ++ [x] from rfl, digV_app]; rfl
      have hpos : 0 < digV 0 (b :: m) := by
        have h1 := hm b (List.mem_cons_self ..)
        have : 10 * 0 + (b.toNat - 48) ≤ digV 0 (b :: m) := digV_mono (acc := 10 * 0 + (b.toNat - 48)) (l := m)
        unfold isDig at h1; omega
      unfold isDig at hx
      show decDigits (digV 0 (b :: (m ++ [x]))) = _
      rw [hv, decDigits, dif_neg (by omega), show (10 * digV 0 (b :: m) + (x.toNat - 48)) / 10 = digV 0 (b :: m) by omega, show (10 * digV 0 (b :: m) + (x.toNat - 48)) % 10 = x.toNat - 48 by omega, i1, dig_back hx]
      rfl
/-! ### Numbers of strings, as the reference parses them -/
def atN (s : Bytes) : Nat := if (s.getD 0 0).toNat = 45 then 1 else 0
def badN (d : Nat) (s : Bytes) : Prop := s.length = atN s ∨ d < s.length - atN s ∨ ((s.getD (atN s) 0).toNat = 48 ∧ 1 < s.length)
instance (d : Nat) (s : Bytes) : Decidable (badN d s) := inferInstanceAs (Decidable (_ ∨ _ ∨ _))
/-- The number that a string spells with at most d digits. -/
def numN (d : Nat) (s : Bytes) : Option Int :=
  if badN d s then none else if ∀ b ∈ s.drop (atN s), isDig b then some (if atN s = 1 then -(digV 0 (s.drop (atN s)) : Int) else (digV 0 (s.drop (atN s)) : Int)) else none
theorem atN_le (s : Bytes) : atN s ≤ s.length := by
  unfold atN
  cases s with
  | nil => simp
  | cons b s => simp only [List.length_cons]; split <;> omega
theorem cut_succ {s : Bytes} {a i : Nat} (h1 : a ≤ i) (h2 : i < s.length) : (s.take (i + 1)).drop a = (s.take i).drop a ++ [s.getD i 0] := by
  have e : s.take (i + 1) = s.take i ++ [s.getD i 0] := by
    rw [List.take_succ_eq_append_getElem h2]
    simp [List.getD_eq_getElem?_getD, h2]
  rw [e, List.drop_append_of_le_length (by simp; omega)]
theorem digV_cut {s : Bytes} {a i : Nat} (h1 : a ≤ i) (h2 : i < s.length) (h3 : isDig (s.getD i 0)) : ((digV 0 ((s.take (i + 1)).drop a) : Nat) : Int) = 10 * ((digV 0 ((s.take i).drop a) : Nat) : Int) + (((s.getD i 0).toNat : Nat) - 48 : Int) := by
  rw [cut_succ h1 h2, digV_app]
  unfold isDig at h3
  show ((10 * digV 0 _ + ((s.getD i 0).toNat - 48) : Nat) : Int) = _
  omega
theorem digV_small {l : Bytes} (h : ∀ b ∈ l, isDig b) (hl : l.length ≤ 18) : (digV 0 l : Int) < 1000000000000000000 := by
  have h1 := digV_lt l 0 h
  have h2 : (0 + 1) * 10 ^ l.length ≤ 10 ^ 18 := by
    rw [Nat.zero_add, Nat.one_mul]
    exact Nat.pow_le_pow_right (by decide) hl
  have e : (10 : Nat) ^ 18 = 1000000000000000000 := by decide
  omega
theorem digV_small7 {l : Bytes} (h : ∀ b ∈ l, isDig b) (hl : l.length ≤ 17) : (digV 0 l : Int) < 100000000000000000 := by
  have h1 := digV_lt l 0 h
  have h2 : (0 + 1) * 10 ^ l.length ≤ 10 ^ 17 := by
    rw [Nat.zero_add, Nat.one_mul]
    exact Nat.pow_le_pow_right (by decide) hl
  have e : (10 : Nat) ^ 17 = 100000000000000000 := by decide
  omega
/-! ### Cut at a byte, as the reference cuts -/
def cutP (s : Bytes) (c : Nat) : Nat → List Bytes × Nat
  | 0 => ([], 0)
  | i + 1 => if (s.getD i 0).toNat = c then ((cutP s c i).1 ++ [(s.take i).drop (cutP s c i).2], i + 1) else cutP s c i
def cutR (s : Bytes) (c : Nat) : List Bytes := (cutP s c s.length).1 ++ [s.drop (cutP s c s.length).2]
theorem cutP_le (s : Bytes) (c : Nat) : ∀ i, (cutP s c i).2 ≤ i ∧ (cutP s c i).1.length ≤ i
  | 0 => ⟨Nat.le_refl _, Nat.le_refl _⟩
  | i + 1 => by
    obtain ⟨h1, h2⟩ := cutP_le s c i
    unfold cutP
    split
    · exact ⟨Nat.le_refl _, by simp; omega⟩
    · exact ⟨by omega, by omega⟩
end Go.Plain

/- Plain facts: the place of a word, words as numbers. -/
namespace Go.Plain
open Go.Lib
def idxI (l : List Bytes) (x : Bytes) : Int := if x ∈ l then (l.idxOf x : Int) else -1
theorem idxI_no {l : List Bytes} {x : Bytes} (h : x ∉ l) : idxI l x = -1 := by unfold idxI; rw [if_neg h]
theorem idxI_at {l : List Bytes} {x : Bytes} {i : Nat} (h : i < l.length) (e : l[i] = x) (hno : x ∉ l.take i) : idxI l x = i := by
  have hm : x ∈ l := by rw [← e]; exact List.getElem_mem h
  unfold idxI
  rw [if_pos hm]
  have : l.idxOf x = i := by
    have hs : l = l.take i ++ x :: l.drop (i + 1) := by
      rw [← e, List.getElem_cons_drop h, List.take_append_drop]
    rw [hs, List.idxOf_append, if_neg hno, List.idxOf_cons_self]
    simp; omega
  rw [this]
/-- What a word is, if it is a number of at most three digits; words as numbers. -/
def numsN : List Bytes → Option (List Int)
  | [] => some []
  | s :: r => match numN 3 s, numsN r with
    | some n, some t => some (n :: t)
    | _, _ => none
theorem numsN_app (a b : List Bytes) : numsN (a ++ b) = match numsN a, numsN b with
    | some x, some y => some (x ++ y)
    | _, _ => none := by
  induction a with
  | nil => show numsN b = _; cases numsN b <;> rfl
  | cons s a ih =>
    show (match numN 3 s, numsN (a ++ b) with | some n, some t => some (n :: t) | _, _ => none) = (match (match numN 3 s, numsN a with | some n, some t => some (n :: t) | _, _ => none), numsN b with | some x, some y => some (x ++ y) | _, _ => none)
    rw [ih]
    cases numN 3 s <;> cases numsN a <;> cases numsN b <;> rfl
theorem numsN_snoc {l : List Bytes} {i : Nat} (h : i < l.length) {xs : List Int} (hx : numsN (l.take i) = some xs) {n : Int} (hn : numN 3 (l.getD i []) = some n) : numsN (l.take (i + 1)) = some (xs ++ [n]) := by
  rw [List.take_add_one, List.getElem?_eq_getElem h, numsN_app, hx]
  have : l.getD i [] = l[i] := by simp [List.getD_eq_getElem?_getD, h]
  rw [this] at hn
  show (match some xs, numsN [l[i]] with | some x, some y => some (x ++ y) | _, _ => none) = _
  have : numsN [l[i]] = some [n] := by unfold numsN; rw [hn]; rfl
  rw [this]
theorem numsN_bad {l : List Bytes} {i : Nat} (h : i < l.length) (hn : numN 3 (l.getD i []) = none) : numsN l = none := by
  have hs : l = l.take i ++ l[i] :: l.drop (i + 1) := by
    rw [List.getElem_cons_drop h, List.take_append_drop]
  have : l.getD i [] = l[i] := by simp [List.getD_eq_getElem?_getD, h]
  rw [this] at hn
  rw [hs, numsN_app]
  have e : numsN (l[i] :: l.drop (i + 1)) = none := by unfold numsN; rw [hn]
  rw [e]
  cases numsN (l.take i) <;> rfl
theorem numsN_len : ∀ {l : List Bytes} {xs : List Int}, numsN l = some xs → xs.length = l.length
  | [], xs, h => by
    have : xs = [] := by simpa [numsN] using h.symm
    simp [this]
  | s :: r, xs, h => by
    unfold numsN at h
    split at h
    · rename_i n t h1 h2
      have : xs = n :: t := by simpa using h.symm
      rw [this, List.length_cons, List.length_cons, numsN_len h2]
    · cases h
end Go.Plain

/- Plain facts: a word is a number of at most d digits just if Atoi reads it, Itoa prints it so, and it is short. -/
namespace Go.Plain
open Go.Lib
theorem pu_dig : ∀ (l : Bytes) (acc : Nat), (∀ b ∈ l, isDig b) → digV acc l < 1000000000000000000 → parseUint10 acc l = .ok (digV acc l)
  | [], _, _, _ => rfl
  | c :: r, acc, h, hl => by
    have hc := h c (List.mem_cons_self ..)
    have h1 : 10 * acc + (c.toNat - 48) ≤ digV (10 * acc + (c.toNat - 48)) r := digV_mono
    have h2 : digV (10 * acc + (c.toNat - 48)) r < 1000000000000000000 := hl
    have ih := pu_dig r (10 * acc + (c.toNat - 48)) (fun b hb => h b (List.mem_cons_of_mem _ hb)) h2
    unfold isDig at hc
    show (if 48 ≤ c.toNat ∧ c.toNat ≤ 57 then if 1844674407370955162 ≤ acc then _ else if 18446744073709551616 ≤ acc * 10 + (c.toNat - 48) then _ else parseUint10 (acc * 10 + (c.toNat - 48)) r else _) = _
    rw [if_pos hc, if_neg (by omega), if_neg (by omega), Nat.mul_comm acc 10, ih]
    rfl
theorem pm_dig {l : Bytes} (h0 : l ≠ []) (h : ∀ b ∈ l, isDig b) (hl : l.length ≤ 18) : parseMag l = .ok (digV 0 l) := by
  unfold parseMag
  rw [if_neg h0]
  exact pu_dig l 0 h (by have := digV_small h hl; omega)
theorem b45 {c : UInt8} (h : c.toNat = 45) : c = 45 := UInt8.toNat_inj.1 h
theorem trim_neg (r : Bytes) : trimPrefix (45 :: r) [45] = r := by
  simp [trimPrefix, hasPrefix]
theorem trim_pos {c : UInt8} (h : c.toNat ≠ 45) (r : Bytes) : trimPrefix (c :: r) [45] = c :: r := by
  have : ¬ (45 : UInt8) = c := fun e => h (by rw [← e]; rfl)
  simp [trimPrefix, hasPrefix, List.isPrefixOf, this]
theorem numN_some {d : Nat} {s : Bytes} {n : Int} (hd : d ≤ 18) (h : numN d s = some n) : atoiAll s = .ok n ∧ itoa n = s ∧ (trimPrefix s [45]).length ≤ d ∧ -9223372036854775808 ≤ n ∧ n ≤ 9223372036854775807 := by
  unfold numN at h
  split at h
  · cases h
  rename_i hb
  split at h
  · rename_i hdg
    cases s with
    | nil => exact absurd (.inl rfl) hb
    | cons c r =>
      by_cases h45 : c.toNat = 45
      · have hc := b45 h45
        subst hc
        have ea : atN (45 :: r) = 1 := rfl
        unfold badN at hb
        rw [ea] at h hb hdg
        simp only [List.length_cons, List.drop_succ_cons, List.drop_zero] at hb hdg h
        simp only [if_true] at h
        have hn : n = -(digV 0 r : Int) := by simpa using h.symm
        cases r with
        | nil => exact absurd (.inl rfl) hb
        | cons b r' =>
          have hb48 : b.toNat ≠ 48 := by
            intro e
            exact hb (.inr (.inr ⟨e, by simp⟩))
          have hlen : (b :: r').length ≤ d := by
            simp only [List.length_cons] at hb ⊢; omega
          have hb1 := hdg b (List.mem_cons_self ..)
          have hpos : 0 < digV 0 (b :: r') := by
            have : 10 * 0 + (b.toNat - 48) ≤ digV 0 (b :: r') := digV_mono (acc := 10 * 0 + (b.toNat - 48)) (l := r')
            unfold isDig at hb1; omega
          have hsm := digV_small hdg (by omega)
          refine ⟨?_, ?_, ?_, ?_⟩
          · rw [atoiAll_minus, pm_dig (by simp) hdg (by omega), hn]
            unfold signed
            dsimp only
            rw [if_neg (by omega)]
          · unfold itoa
            rw [if_pos (by omega), hn]
            have : (-(digV 0 (b :: r') : Int)).natAbs = digV 0 (b :: r') := by omega
            rw [this, dec_of _ b r' rfl hdg (.inl hb48)]
          · rw [trim_neg]; exact hlen
          · omega
      · have ea : atN (c :: r) = 0 := by unfold atN; rw [if_neg (by simpa using h45)]
        unfold badN at hb
        rw [ea] at h hb hdg
        simp only [List.length_cons, List.drop_zero] at hb hdg h
        simp only [Nat.zero_ne_one, if_false] at h
        have hn : n = (digV 0 (c :: r) : Int) := by simpa using h.symm
        have hc1 := hdg c (List.mem_cons_self ..)
        have hc48 : c.toNat ≠ 48 ∨ r = [] := by
          by_cases e : c.toNat = 48
          · right
            cases r with
            | nil => rfl
            | cons b r' => exact absurd (.inr (.inr ⟨by simpa using e, by simp⟩)) hb
          · exact .inl e
        have hlen : (c :: r).length ≤ d := by
          simp only [List.length_cons] at hb ⊢; omega
        have hsm := digV_small hdg (by omega)
        refine ⟨?_, ?_, ?_, ?_⟩
        · rw [atoiAll_plain c r (by unfold isDig at hc1; omega) h45, pm_dig (by simp) hdg (by omega), hn]
          unfold signless
          dsimp only
          rw [if_neg (by omega)]
        · unfold itoa
          rw [if_neg (by omega), hn]
          have : ((digV 0 (c :: r) : Nat) : Int).toNat = digV 0 (c :: r) := by omega
          rw [this, dec_of _ c r rfl hdg hc48]
        · rw [trim_pos h45]; exact hlen
        · omega
  · cases h
theorem numN_back {d : Nat} {n : Int} (h2 : (trimPrefix (itoa n) [45]).length ≤ d) : numN d (itoa n) = some n := by
  unfold itoa at *
  split at h2
  · rename_i h
    rw [trim_neg] at h2
    obtain ⟨b, r, e, hb⟩ := dec_head (u := n.natAbs) (by omega)
    have hdg := dec_dig n.natAbs
    have hv := dec_val n.natAbs
    rw [if_pos h]
    have ea : atN (45 :: decDigits n.natAbs) = 1 := rfl
    have hbad : ¬ badN d (45 :: decDigits n.natAbs) := by
      unfold badN
      rw [ea]
      rintro (h1 | h1 | ⟨h1, _⟩)
      · rw [e] at h1; simp at h1
      · simp only [List.length_cons] at h1; omega
      · rw [e] at h1; exact hb (by simpa using h1)
    unfold numN
    rw [if_neg hbad, ea]
    simp only [List.drop_succ_cons, List.drop_zero, if_true]
    rw [if_pos hdg, hv]
    congr 1; omega
  · rename_i h
    have hdg := dec_dig n.toNat
    have hv := dec_val n.toNat
    rw [if_neg h]
    have hne := dec_ne n.toNat
    obtain ⟨b, r, e⟩ : ∃ b r, decDigits n.toNat = b :: r := by
      cases hh : decDigits n.toNat with
      | nil => exact absurd hh hne
      | cons b r => exact ⟨b, r, rfl⟩
    have hb1 := hdg b (by rw [e]; exact List.mem_cons_self ..)
    have h45 : b.toNat ≠ 45 := by unfold isDig at hb1; omega
    rw [e, trim_pos h45, ← e] at h2
    have ea : atN (decDigits n.toNat) = 0 := by rw [e]; unfold atN; rw [if_neg (by simpa using h45)]
    have hbad : ¬ badN d (decDigits n.toNat) := by
      unfold badN
      rw [ea]
      rintro (h1 | h1 | ⟨h1, h3⟩)
      · rw [e] at h1; simp at h1
      · omega
      · rw [e] at h1 h3
        by_cases h0 : 0 < n.toNat
        · obtain ⟨b', r', e', hb'⟩ := dec_head h0
          rw [e] at e'
          injection e' with e1 e2
          subst e1
          exact hb' (by simpa using h1)
        · have : n.toNat = 0 := by omega
          rw [this] at e
          have : decDigits 0 = [48] := by rw [decDigits]; rfl
          rw [this] at e
          injection e with e1 e2
          rw [← e2] at h3
          simp at h3
    unfold numN
    rw [if_neg hbad, ea]
    simp only [Nat.zero_ne_one, List.drop_zero, if_false]
    rw [if_pos hdg, hv]
    congr 1; omega
theorem numN_none {d : Nat} {s : Bytes} (h : numN d s = none) {v : Int} : ¬ (itoa v = s ∧ (trimPrefix s [45]).length ≤ d) := by
  rintro ⟨h1, h2⟩
  subst h1
  rw [numN_back h2] at h
  cases h
end Go.Plain

/- Plain facts: a window's string. -/
namespace Go.Plain
open Go.Lib
theorem nDigits_le : ∀ (k u : Nat), u < 10 ^ (k + 1) → nDigits u ≤ k + 1
  | 0, u, h => by rw [nDigits_small (by omega)]; omega
  | k + 1, u, h => by
    by_cases h9 : u < 10
    · rw [nDigits_small h9]; omega
    · rw [nDigits_big h9]
      have := nDigits_le k (u / 10) (by rw [Nat.pow_succ] at h; omega)
      omega
theorem itoa_len {n : Int} (h : -9223372036854775808 ≤ n ∧ n ≤ 9223372036854775807) : (itoa n).length ≤ 20 := by
  unfold itoa
  split
  · rw [List.length_cons, decDigits_length]
    have := nDigits_le 18 n.natAbs (by have : (10 : Nat) ^ (18 + 1) = 10000000000000000000 := by decide
                                       omega)
    omega
  · rw [decDigits_length]
    have := nDigits_le 18 n.toNat (by have : (10 : Nat) ^ (18 + 1) = 10000000000000000000 := by decide
                                      omega)
    omega
/-- The words of a window. -/
def wordsW (a b : List Int) : List Bytes := a.map itoa ++ [59] :: b.map itoa
def fmtW (a b : List Int) : Bytes := join (wordsW a b) [32]
def catA (a : List Int) : Bytes := (a.map fun n => itoa n ++ [32]).flatten
def catB (b : List Int) : Bytes := (b.map fun n => 32 :: itoa n).flatten
theorem fmtW_eq (a b : List Int) : fmtW a b = catA a ++ [59] ++ catB b := by
  unfold fmtW wordsW
  induction a with
  | nil =>
    show join ([59] :: b.map itoa) [32] = _
    rw [join_cons]
    have : joinTail [32] (b.map itoa) = catB b := by
      unfold joinTail catB
      rw [List.map_map]; rfl
    rw [this]; rfl
  | cons n a ih =>
    have hne : a.map itoa ++ [59] :: b.map itoa ≠ [] := by simp
    obtain ⟨y, r, e⟩ : ∃ y r, a.map itoa ++ [59] :: b.map itoa = y :: r := by
      cases h : a.map itoa ++ [59] :: b.map itoa with
      | nil => exact absurd h hne
      | cons y r => exact ⟨y, r, rfl⟩
    have e1 : (n :: a).map itoa ++ [59] :: b.map itoa = itoa n :: (y :: r) := by rw [List.map_cons, List.cons_append, e]
    rw [e1, join_cons]
    rw [e, join_cons] at ih
    have e2 : joinTail [32] (y :: r) = [32] ++ (y ++ joinTail [32] r) := by
      unfold joinTail
      rw [List.map_cons, List.flatten_cons]
      simp
    rw [e2, ih]
    show itoa n ++ ([32] ++ (catA a ++ [59] ++ catB b)) = ((itoa n ++ [32]) ++ catA a) ++ [59] ++ catB b
    simp
def inJ (n : Int) : Prop := -9223372036854775808 ≤ n ∧ n ≤ 9223372036854775807
theorem catA_len : ∀ {a : List Int}, (∀ n ∈ a, inJ n) → (catA a).length ≤ 21 * a.length
  | [], _ => by simp [catA]
  | n :: a, h => by
    have h1 := itoa_len (h n (List.mem_cons_self ..))
    have h2 := catA_len (a := a) fun x hx => h x (List.mem_cons_of_mem _ hx)
    have : catA (n :: a) = itoa n ++ [32] ++ catA a := rfl
    rw [this]; simp only [List.length_append, List.length_cons, List.length_nil]; omega
theorem catB_len : ∀ {a : List Int}, (∀ n ∈ a, inJ n) → (catB a).length ≤ 21 * a.length
  | [], _ => by simp [catB]
  | n :: a, h => by
    have h1 := itoa_len (h n (List.mem_cons_self ..))
    have h2 := catB_len (a := a) fun x hx => h x (List.mem_cons_of_mem _ hx)
    have : catB (n :: a) = (32 :: itoa n) ++ catB a := rfl
    rw [this]; simp only [List.length_append, List.length_cons]; omega
theorem takeD_snoc {α : Type} {l : List α} {i : Nat} (h : i < l.length) (d : α) : l.take (i + 1) = l.take i ++ [l.getD i d] := by
  rw [List.take_add_one, List.getElem?_eq_getElem h]
  simp [List.getD_eq_getElem?_getD, h]
theorem catA_snoc {l : List Int} {i : Nat} (h : i < l.length) : catA (l.take (i + 1)) = catA (l.take i) ++ itoa (l.getD i 0) ++ [32] := by
  rw [takeD_snoc h 0]; unfold catA; simp
theorem catB_snoc {l : List Int} {i : Nat} (h : i < l.length) : catB (l.take (i + 1)) = catB (l.take i) ++ [32] ++ itoa (l.getD i 0) := by
  rw [takeD_snoc h 0]; unfold catB; simp
theorem words_snoc {l : List Int} {i : Nat} (h : i < l.length) : (l.take (i + 1)).map itoa = (l.take i).map itoa ++ [itoa (l.getD i 0)] := by
  rw [takeD_snoc h 0]; simp
theorem getD_in {l : List Int} {P : Int → Prop} (hl : ∀ n ∈ l, P n) {i : Nat} (h : i < l.length) : P (l.getD i 0) := by
  rw [show l.getD i 0 = l[i] by simp [List.getD_eq_getElem?_getD, h]]
  exact hl _ (List.getElem_mem h)
theorem take_in {l : List Int} {P : Int → Prop} (hl : ∀ n ∈ l, P n) {i : Nat} : ∀ n ∈ l.take i, P n := fun n hn => hl n (List.mem_of_mem_take hn)
end Go.Plain

/- Plain facts: a string cut at a byte: three ways that agree. -/
namespace Go.Plain
open Go.Lib
def spl (c : Nat) : Bytes → List Bytes
  | [] => [[]]
  | b :: r => if b.toNat = c then [] :: spl c r else match spl c r with
    | w :: ws => (b :: w) :: ws
    | [] => [[b]]
theorem spl_ne (c : Nat) : ∀ s, spl c s ≠ []
  | [] => by simp [spl]
  | b :: r => by
    unfold spl
    split
    · simp
    · split <;> simp
theorem spl_index (c : UInt8) : ∀ s : Bytes, (indexByte s c = -1 ∧ spl c.toNat s = [s]) ∨ ∃ i : Nat, i < s.length ∧ indexByte s c = i ∧ spl c.toNat s = s.take i :: spl c.toNat (s.drop (i + 1))
  | [] => .inl ⟨rfl, rfl⟩
  | b :: r => by
    by_cases hb : b = c
    · subst hb
      refine .inr ⟨0, by simp, ?_, ?_⟩
      · unfold indexByte; rw [if_pos (by simp)]; rfl
      · show (if b.toNat = b.toNat then _ else _) = _
        rw [if_pos rfl]; rfl
    · have hb' : ¬ b.toNat = c.toNat := fun e => hb (UInt8.toNat_inj.1 e)
      rcases spl_index c r with ⟨h1, h2⟩ | ⟨i, h1, h2, h3⟩
      · refine .inl ⟨?_, ?_⟩
        · unfold indexByte; rw [if_neg (by simpa using hb), if_pos (by simpa using h1)]
        · unfold spl; rw [if_neg hb', h2]
      · refine .inr ⟨i + 1, by simpa using h1, ?_, ?_⟩
        · unfold indexByte; rw [if_neg (by simpa using hb), h2, if_neg (by simp <;> omega)]; first | omega | rfl
        · show (if b.toNat = c.toNat then _ else match spl c.toNat r with | w :: ws => (b :: w) :: ws | [] => [[b]]) = _
          rw [if_neg hb', h3]; rfl
theorem spl_splitK (c : UInt8) : ∀ (n : Nat) (s : Bytes), s.length ≤ n → splitK [c] 0 (count s [c]) s = spl c.toNat s ∧ (spl c.toNat s).length = count s [c] + 1
  | n, s, hn => by
    rcases spl_index c s with ⟨h1, h2⟩ | ⟨i, h1, h2, h3⟩
    · rw [← index_one] at h1
      rw [count_miss h1, h2]
      exact ⟨rfl, rfl⟩
    · rw [← index_one] at h2
      rw [count_hit (by simp) h2, h3, Nat.add_comm 1]
      have hl : (s.drop (i + 1)).length < s.length := by simp; omega
      cases n with
      | zero => omega
      | succ n =>
        have ih := spl_splitK c n (s.drop (i + 1)) (by omega)
        simp only [List.length_cons, List.length_nil, Nat.zero_add]
        refine ⟨?_, by rw [ih.2]⟩
        show (if (index s [c] == -1) = true then _ else _) = _
        rw [if_neg (by rw [h2]; simp <;> omega), h2]
        simp only [List.length_cons, List.length_nil, Nat.zero_add, Int.toNat_natCast, Nat.add_zero]
        rw [ih.1]
theorem cutS_spl (s : Bytes) (c : UInt8) : Go.Fw.cutS s c = spl c.toNat s ∧ (Go.Fw.cutS s c).length = countB (Go.Fw.B s) (Go.Fw.B [c]) + 1 := by
  have e : countB (Go.Fw.B s) (Go.Fw.B [c]) = count s [c] := by
    show count (Go.Fw.B s).data.toList (Go.Fw.B [c]).data.toList = _
    rw [Go.Fw.B_data, Go.Fw.B_data]
  have h := spl_splitK c s.length s (Nat.le_refl _)
  unfold Go.Fw.cutS
  rw [e, h.1]
  exact ⟨rfl, h.2⟩
theorem spl_snoc (c : Nat) (b : UInt8) : ∀ (t : Bytes) (ps : List Bytes) (w : Bytes), spl c t = ps ++ [w] → spl c (t ++ [b]) = if b.toNat = c then ps ++ [w] ++ [[]] else ps ++ [w ++ [b]]
  | [], ps, w, h => by
    have h' : [[]] = ps ++ [w] := h
    have : ps = [] ∧ w = [] := by
      cases ps with
      | nil => exact ⟨rfl, by simpa using h'.symm⟩
      | cons p ps => simp at h'
    obtain ⟨rfl, rfl⟩ := this
    show (if b.toNat = c then [] :: [[]] else _) = _
    split <;> rfl
  | x :: t, ps, w, h => by
    by_cases hx : x.toNat = c
    · have h1 : [] :: spl c t = ps ++ [w] := by rw [← h]; exact (if_pos hx).symm
      cases ps with
      | nil =>
        have := spl_ne c t
        simp at h1; exact absurd h1.2 this
      | cons p ps =>
        have h2 : p = [] ∧ spl c t = ps ++ [w] := by simpa [eq_comm] using h1
        have ih := spl_snoc c b t ps w h2.2
        show (if x.toNat = c then [] :: spl c (t ++ [b]) else _) = _
        rw [if_pos hx, ih, h2.1]
        split <;> rfl
    · have hne := spl_ne c t
      cases hs : spl c t with
      | nil => exact absurd hs hne
      | cons w0 ws =>
        have h1 : (x :: w0) :: ws = ps ++ [w] := by
          rw [← h]
          show _ = (if x.toNat = c then _ else match spl c t with | w :: ws => (x :: w) :: ws | [] => [[x]])
          rw [if_neg hx, hs]
        have go : ∀ u us, spl c (t ++ [b]) = u :: us → spl c (x :: t ++ [b]) = (x :: u) :: us := by
          intro u us e
          show (if x.toNat = c then _ else match spl c (t ++ [b]) with | w :: ws => (x :: w) :: ws | [] => [[x]]) = _
          rw [if_neg hx, e]
        cases ps with
        | nil =>
          have h2 : x :: w0 = w ∧ ws = [] := by simpa using h1
          obtain ⟨rfl, rfl⟩ := h2
          have ih := spl_snoc c b t [] w0 (by rw [hs]; rfl)
          split
          · rename_i hb; rw [if_pos hb] at ih; exact go _ _ ih
          · rename_i hb; rw [if_neg hb] at ih; exact go _ _ ih
        | cons p ps =>
          have h2 : x :: w0 = p ∧ ws = ps ++ [w] := by simpa using h1
          obtain ⟨rfl, rfl⟩ := h2
          have ih := spl_snoc c b t (w0 :: ps) w (by rw [hs]; rfl)
          split
          · rename_i hb; rw [if_pos hb] at ih; exact go _ _ ih
          · rename_i hb; rw [if_neg hb] at ih; exact go _ _ ih
theorem cutP_spl (s : Bytes) (c : Nat) : ∀ i, i ≤ s.length → spl c (s.take i) = (cutP s c i).1 ++ [(s.take i).drop (cutP s c i).2]
  | 0, _ => by simp [spl, cutP]
  | i + 1, h => by
    have ih := cutP_spl s c i (by omega)
    have h2 := (cutP_le s c i).1
    have e : s.take (i + 1) = s.take i ++ [s.getD i 0] := by
      have := cut_succ (s := s) (a := 0) (i := i) (Nat.zero_le _) (by omega)
      simpa using this
    have hs := spl_snoc c (s.getD i 0) (s.take i) _ _ ih
    rw [e, hs]
    show _ = (if (s.getD i 0).toNat = c then ((cutP s c i).1 ++ [(s.take i).drop (cutP s c i).2], i + 1) else cutP s c i).1 ++ [(s.take i ++ [s.getD i 0]).drop (if (s.getD i 0).toNat = c then ((cutP s c i).1 ++ [(s.take i).drop (cutP s c i).2], i + 1) else cutP s c i).2]
    by_cases hc : (s.getD i 0).toNat = c
    · simp only [if_pos hc]
      have : (s.take i ++ [s.getD i 0]).drop (i + 1) = [] := by
        rw [List.drop_eq_nil_of_le]; simp; omega
      rw [this]
    · simp only [if_neg hc]
      rw [← e, cut_succ h2 (by omega)]
theorem cutR_spl (s : Bytes) (c : Nat) : cutR s c = spl c s := by
  have := cutP_spl s c s.length (Nat.le_refl _)
  rw [List.take_length] at this
  exact this.symm
theorem spl_clean {c : Nat} : ∀ {w : Bytes}, (∀ b ∈ w, b.toNat ≠ c) → spl c w = [w] ∧ ∀ d r, d.toNat = c → spl c (w ++ d :: r) = w :: spl c r
  | [], _ => ⟨rfl, fun d r hd => by show (if d.toNat = c then _ else _) = _; rw [if_pos hd]⟩
  | b :: w, h => by
    have ih := spl_clean (c := c) (w := w) fun x hx => h x (List.mem_cons_of_mem _ hx)
    have hb := h b (List.mem_cons_self ..)
    refine ⟨?_, fun d r hd => ?_⟩
    · unfold spl; rw [if_neg hb, ih.1]
    · show (if b.toNat = c then _ else match spl c (w ++ d :: r) with | w :: ws => (b :: w) :: ws | [] => [[b]]) = _
      rw [if_neg hb, ih.2 d r hd]
theorem spl_join : ∀ (x : Bytes) (l : List Bytes), (∀ w ∈ x :: l, ∀ b ∈ w, b.toNat ≠ 32) → spl 32 (join (x :: l) [32]) = x :: l
  | x, [], h => by
    rw [join_one]
    exact (spl_clean (h x (List.mem_cons_self ..))).1
  | x, y :: l, h => by
    have ih := spl_join y l fun w hw => h w (List.mem_cons_of_mem _ hw)
    have e : join (x :: y :: l) [32] = x ++ 32 :: join (y :: l) [32] := by
      rw [join_cons, join_cons]
      unfold joinTail
      rw [List.map_cons, List.flatten_cons]
      simp
    rw [e, (spl_clean (h x (List.mem_cons_self ..))).2 32 _ rfl, ih]
theorem spl_len (c : Nat) : ∀ s : Bytes, (spl c s).length ≤ s.length + 1 ∧ ∀ w ∈ spl c s, w.length ≤ s.length
  | [] => by simp [spl]
  | b :: r => by
    have ih := spl_len c r
    unfold spl
    split
    · refine ⟨by simp; omega, fun w hw => ?_⟩
      rcases List.mem_cons.1 hw with rfl | hw
      · simp
      · have := ih.2 w hw; simp; omega
    · cases hs : spl c r with
      | nil => exact absurd hs (spl_ne c r)
      | cons w0 ws =>
        rw [hs] at ih
        refine ⟨by have := ih.1; simp at this ⊢; omega, fun w hw => ?_⟩
        rcases List.mem_cons.1 hw with rfl | hw
        · have := ih.2 w0 (List.mem_cons_self ..); simp; omega
        · have := ih.2 w (List.mem_cons_of_mem _ hw); simp; omega
end Go.Plain

/- Plain facts: a window's string, parsed. -/
namespace Go.Plain
open Go.Lib
def nl (o : Option (List Int)) : List Int := o.getD []
def nb (o : Option (List Int)) : Bool := match o with
  | some xs => decide ((xs.length : Int) > 0)
  | none => false
def bothP (p q : Option (List Int)) : (List Int × List Int) × Int :=
  if nb p = true ∧ nb q = true then if windowErr (nl p) (nl q) = 0 then ((nl p, nl q), 0) else (([], []), windowErr (nl p) (nl q)) else (([], []), 7)
/-- What a string's words are: a window, or an error. -/
def parseW (ws : List Bytes) : (List Int × List Int) × Int :=
  if [59] ∈ ws then bothP (numsN (ws.take (ws.idxOf [59]))) (numsN (ws.drop (ws.idxOf [59] + 1))) else (([], []), 7)
theorem nl_len {ws : List Bytes} : (nl (numsN ws)).length ≤ ws.length := by
  unfold nl
  cases h : numsN ws with
  | none => simp
  | some xs => have := numsN_len h; simp [this]
/-- The reference's loop. -/
def goR : List Bytes → Bool → List Int → List Int → Option (Bool × List Int × List Int)
  | [], bh, a, b => some (bh, a, b)
  | w :: ws, bh, a, b => if w = [59] then if bh then none else goR ws true a b else match numN 3 w with
    | some n => if bh then goR ws bh a (b ++ [n]) else goR ws bh (a ++ [n]) b
    | none => none
theorem num_semi : numN 3 [59] = none := by
  unfold numN badN isDig
  decide
theorem goR_behind : ∀ (ws : List Bytes) (a b : List Int), goR ws true a b = (numsN ws).map fun x => (true, a, b ++ x)
  | [], a, b => by simp [goR, numsN]
  | w :: ws, a, b => by
    unfold goR numsN
    by_cases hw : w = [59]
    · rw [if_pos hw, hw, num_semi]; rfl
    · rw [if_neg hw]
      cases numN 3 w with
      | none => rfl
      | some n =>
        simp only [if_true]
        rw [goR_behind ws a (b ++ [n])]
        cases numsN ws with
        | none => rfl
        | some x => simp
theorem goR_front : ∀ (ws : List Bytes) (a b : List Int), goR ws false a b = if [59] ∈ ws then match numsN (ws.take (ws.idxOf [59])), numsN (ws.drop (ws.idxOf [59] + 1)) with
    | some x, some y => some (true, a ++ x, b ++ y)
    | _, _ => none else (numsN ws).map fun x => (false, a ++ x, b)
  | [], a, b => by simp [goR, numsN]
  | w :: ws, a, b => by
    unfold goR
    by_cases hw : w = [59]
    · rw [if_pos hw]
      simp only [Bool.false_eq_true, if_false]
      rw [if_pos (show [59] ∈ w :: ws by simp [hw]), hw, List.idxOf_cons_self]
      simp only [List.take_zero, Nat.zero_add, List.drop_succ_cons, List.drop_zero]
      rw [goR_behind]
      have : numsN [] = some [] := rfl
      rw [this]
      cases numsN ws with
      | none => rfl
      | some y => simp
    · rw [if_neg hw]
      have hi : (w :: ws).idxOf [59] = ws.idxOf [59] + 1 := by
        rw [List.idxOf_cons]
        have : (w == [59]) = false := by simpa using hw
        rw [this]; rfl
      have hm : [59] ∈ w :: ws ↔ [59] ∈ ws := by
        simp only [List.mem_cons]
        exact ⟨fun h => h.elim (fun e => absurd e.symm hw) id, .inr⟩
      rw [hi]
      simp only [List.take_succ_cons, List.drop_succ_cons]
      have e : ∀ l, numsN (w :: l) = match numN 3 w, numsN l with
        | some n, some t => some (n :: t)
        | _, _ => none := fun l => rfl
      rw [e, e]
      cases numN 3 w with
      | none =>
        by_cases h : [59] ∈ ws
        · rw [if_pos (hm.2 h)]
        · rw [if_neg (fun h' => h (hm.1 h'))]; rfl
      | some n =>
        simp only [Bool.false_eq_true, if_false]
        rw [goR_front ws (a ++ [n]) b]
        by_cases h : [59] ∈ ws
        · rw [if_pos h, if_pos (hm.2 h)]
          cases numsN (ws.take (ws.idxOf [59])) <;> cases numsN (ws.drop (ws.idxOf [59] + 1)) <;> simp
        · rw [if_neg h, if_neg (fun h' => h (hm.1 h'))]
          cases numsN ws <;> simp
/-- What the reference answers. -/
def endR (o : Option (Bool × List Int × List Int)) : (List Int × List Int) × Int := match o with
  | some (true, a, b) => if 0 < a.length ∧ 0 < b.length then if windowErr a b = 0 then ((a, b), 0) else (([], []), windowErr a b) else (([], []), 7)
  | _ => (([], []), 7)
theorem endR_eq (ws : List Bytes) : endR (goR ws false [] []) = parseW ws := by
  rw [goR_front]
  unfold parseW
  by_cases h : [59] ∈ ws
  · rw [if_pos h, if_pos h]
    cases numsN (ws.take (ws.idxOf [59])) with
    | none => simp [endR, bothP, nb]
    | some x =>
      cases numsN (ws.drop (ws.idxOf [59] + 1)) with
      | none => simp [endR, bothP, nb]
      | some y =>
        show (if 0 < ([] ++ x).length ∧ 0 < ([] ++ y).length then if windowErr ([] ++ x) ([] ++ y) = 0 then (([] ++ x, [] ++ y), 0) else (([], []), windowErr ([] ++ x) ([] ++ y)) else (([], []), 7)) = (if decide ((x.length : Int) > 0) = true ∧ decide ((y.length : Int) > 0) = true then if windowErr x y = 0 then ((x, y), 0) else (([], []), windowErr x y) else (([], []), 7))
        rw [List.nil_append, List.nil_append]
        by_cases hxy : 0 < x.length ∧ 0 < y.length
        · rw [if_pos hxy, if_pos (show decide ((x.length : Int) > 0) = true ∧ decide ((y.length : Int) > 0) = true from ⟨decide_eq_true (by omega), decide_eq_true (by omega)⟩)]
        · rw [if_neg hxy, if_neg (show ¬ (decide ((x.length : Int) > 0) = true ∧ decide ((y.length : Int) > 0) = true) from fun hh => hxy ⟨by have := of_decide_eq_true hh.1; omega, by have := of_decide_eq_true hh.2; omega⟩)]
  · rw [if_neg h, if_neg h]
    cases numsN ws <;> simp [endR]
end Go.Plain

/- Plain facts: what is printed is read back. -/
namespace Go.Plain
open Go.Lib
theorem parseW_len (ws : List Bytes) : (parseW ws).1.1.length ≤ ws.length ∧ (parseW ws).1.2.length ≤ ws.length := by
  unfold parseW
  split
  · have h1 := nl_len (ws := ws.take (ws.idxOf [59]))
    have h2 := nl_len (ws := ws.drop (ws.idxOf [59] + 1))
    have h3 : (ws.take (ws.idxOf [59])).length ≤ ws.length := by simp; omega
    have h4 : (ws.drop (ws.idxOf [59] + 1)).length ≤ ws.length := by simp
    unfold bothP
    split
    · split
      · exact ⟨by dsimp only; omega, by dsimp only; omega⟩
      · simp
    · simp
  · simp
theorem fmtW_len {a b : List Int} (ha : a.length ≤ 17) (hb : b.length ≤ 17) (h1 : ∀ n ∈ a, inJ n) (h2 : ∀ n ∈ b, inJ n) : (fmtW a b).length ≤ 1000 := by
  rw [fmtW_eq]
  have := catA_len h1
  have := catB_len h2
  simp only [List.length_append, List.length_cons, List.length_nil]; omega
theorem itoa_clean (n : Int) : ∀ x ∈ itoa n, x.toNat ≠ 32 ∧ x.toNat ≠ 59 := by
  intro x hx
  unfold itoa at hx
  split at hx
  · rcases List.mem_cons.1 hx with rfl | hx
    · decide
    · have := dec_dig _ x hx; unfold isDig at this; omega
  · have := dec_dig _ x hx; unfold isDig at this; omega
theorem words_split {a b : List Int} : [59] ∈ wordsW a b ∧ (wordsW a b).idxOf [59] = a.length := by
  refine ⟨by unfold wordsW; simp, ?_⟩
  have hno : [59] ∉ a.map itoa := by
    intro h
    obtain ⟨n, _, e⟩ := List.mem_map.1 h
    have := (itoa_clean n 59 (by rw [e]; simp)).2
    exact this rfl
  unfold wordsW
  rw [List.idxOf_append, if_neg hno, List.idxOf_cons_self]
  simp
theorem trim_le (s : Bytes) : (trimPrefix s [45]).length ≤ s.length := by
  unfold trimPrefix; split <;> simp
theorem itoa_short {n : Int} (h : -100 ≤ n ∧ n ≤ 100) : (trimPrefix (itoa n) [45]).length ≤ 3 := by
  unfold itoa
  split
  · rw [trim_neg, decDigits_length]
    exact nDigits_le 2 _ (by omega)
  · refine Nat.le_trans (trim_le _) ?_
    rw [decDigits_length]
    exact nDigits_le 2 _ (by omega)
theorem nums_back : ∀ {a : List Int}, (∀ n ∈ a, -100 ≤ n ∧ n ≤ 100) → numsN (a.map itoa) = some a
  | [], _ => rfl
  | n :: a, h => by
    have h1 := numN_back (d := 3) (itoa_short (h n (List.mem_cons_self ..)))
    have ih := nums_back (a := a) fun x hx => h x (List.mem_cons_of_mem _ hx)
    show (match numN 3 (itoa n), numsN (a.map itoa) with | some n, some t => some (n :: t) | _, _ => none) = _
    rw [h1, ih]
theorem fmt_back {a b : List Int} (h : windowErr a b = 0) : parseW (spl 32 (fmtW a b)) = ((a, b), 0) := by
  have hv := windowErr_zero.1 h
  have hw : spl 32 (fmtW a b) = wordsW a b := by
    unfold fmtW
    have hc : ∀ w ∈ wordsW a b, ∀ x ∈ w, x.toNat ≠ 32 := by
      intro w hw x hx
      unfold wordsW at hw
      rcases List.mem_append.1 hw with hw | hw
      · obtain ⟨n, _, rfl⟩ := List.mem_map.1 hw
        exact (itoa_clean n x hx).1
      · rcases List.mem_cons.1 hw with rfl | hw
        · rw [List.mem_singleton] at hx; subst hx; decide
        · obtain ⟨n, _, rfl⟩ := List.mem_map.1 hw
          exact (itoa_clean n x hx).1
    cases e : wordsW a b with
    | nil => exact absurd e (by unfold wordsW; simp)
    | cons x l => rw [e] at hc; exact spl_join x l hc
  rw [hw]
  obtain ⟨h1, h2⟩ := words_split (a := a) (b := b)
  unfold parseW
  rw [if_pos h1, h2]
  have e1 : (wordsW a b).take a.length = a.map itoa := by unfold wordsW; simp
  have e2 : (wordsW a b).drop (a.length + 1) = b.map itoa := by
    have : wordsW a b = (a.map itoa ++ [[59]]) ++ b.map itoa := by unfold wordsW; simp
    rw [this, List.drop_left' (by simp)]
  rw [e1, e2, nums_back hv.ra, nums_back hv.rb]
  have hp := hv.pos
  have hl := hv.len
  show (if decide ((a.length : Int) > 0) = true ∧ decide ((b.length : Int) > 0) = true then if windowErr a b = 0 then ((a, b), 0) else (([], []), windowErr a b) else (([], []), 7)) = _
  rw [if_pos ⟨decide_eq_true (by omega), decide_eq_true (by omega)⟩, if_pos h]
end Go.Plain
