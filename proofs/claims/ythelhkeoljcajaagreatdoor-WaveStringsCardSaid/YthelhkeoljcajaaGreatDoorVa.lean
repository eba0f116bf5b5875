/- Parts of the proof, joined. -/
import Derived.Test.YthelhkeoljcajaaGreatDoorWa
import Derived.Test.YthelhkeoljcajaaGreatDoorWb
import Derived.Test.YthelhkeoljcajaaGreatDoorM
namespace Go.Proofs.Tryz
open Go.Fw Go.IntWalk Go.Plain
set_option maxRecDepth 100000
set_option maxHeartbeats 8000000
abbrev mid (n : Int) : Prop := -4611686018427387903 ≤ n ∧ n ≤ 4611686018427387903
theorem wWithin_p (n lo hi : Int) : Sat cx.P cx.gl 60 [I n, I lo, I hi] (.one (Bo (decide (lo ≤ n ∧ n ≤ hi)))) := by
  refine Sat_of_awp (fn := f60) cx_ok (by kernel_rfl) (by kernel_rfl) rfl (by kernel_rfl) (Nat.le_of_ble_eq_true rfl) ?_
  repeat' ((first | refine oP rfl ?_ | refine rP rfl (fun _ z => z) ?_ | (refine kO 1 rfl ?_; refine rG (fun _ z => z) ?_) | refine oN ?_ | refine aS ?_ | refine aR ?_ | refine aT ?_ | refine oY rfl rfl rfl ?_ | refine oZ rfl rfl rfl ?_ | refine opsA_ifp rfl rfl rfl (fun h => ?_) (fun h => ?_)) <;> (try conv => whnf))
  · exact res_bo (by simp [h])
  · exact res_bo (by simp [h])
theorem wUnless_p {b : Bool} {p : Prop} [BP b p] [Decidable p] (e : Int) : Sat cx.P cx.gl 71 [Bo b, I e] (.one (I (if p then 0 else e))) := by
  have h := wUnless_sat b e
  rwa [show (if b = true then (0 : Int) else e) = if p then 0 else e from by simp only [BP.iff (b := b)]] at h
theorem wFirst_fs (l : List Int) (hl : l.length ≤ 1000000) : Sat cx.P cx.gl 51 [(false, [.ints l])] (.one (I (fs l))) := by
  rw [← fs_find]; exact wFirst_sat l hl
theorem wUnless_no {b : Bool} {p : Prop} [BP b p] (hp : ¬ p) (e : Int) : Sat cx.P cx.gl 71 [Bo b, I e] (.one (I e)) := by
  have h := wUnless_sat b e
  rwa [if_neg (fun hb => hp ((BP.iff (b := b)).1 hb))] at h
theorem wUnless_yes {b : Bool} {p : Prop} [BP b p] (hp : p) (e : Int) : Sat cx.P cx.gl 71 [Bo b, I e] (.one (I 0)) := by
  have h := wUnless_sat b e
  rwa [if_pos ((BP.iff (b := b)).2 hp)] at h
theorem wFirst_n2 {x y : Int} (h : x ≠ 0) : Sat cx.P cx.gl 51 [(false, [.ints [x, y]])] (.one (I x)) := by
  have := wFirst_fs [x, y] (Nat.le_of_ble_eq_true rfl)
  rwa [show fs [x, y] = x by simp [fs, h]] at this
theorem wFirst_z2 {y : Int} : Sat cx.P cx.gl 51 [(false, [.ints [0, y]])] (.one (I y)) := by
  have := wFirst_fs [0, y] (Nat.le_of_ble_eq_true rfl)
  rwa [show fs [0, y] = y by by_cases h : y = 0 <;> simp [fs, h]] at this
theorem small_sat (n m : Int) (hm : mid m) : Sat cx.P cx.gl 107 [I n, I m] (.one (Bo (decide (-m ≤ n ∧ n ≤ m)))) := by
  refine Sat_of_awp (fn := f107) cx_ok (by kernel_rfl) (by kernel_rfl) rfl (by kernel_rfl) (Nat.le_of_ble_eq_true rfl) ?_
  repeat ((first | refine oP rfl ?_ | refine rP rfl (fun _ z => z) ?_ | (refine kO 2 rfl ?_; refine rNeg rfl rfl (by omega) ?_) | (refine kO 7 rfl ?_; refine rG (fun _ z => ⟨_, wWithin_p _ _ _, z⟩) ?_) | refine oN ?_ | refine aS ?_ | refine aR ?_ | refine aT ?_); (try conv => whnf))
  (rfl)
theorem wIsSmall_sat (p q : Int) : Sat cx.P cx.gl 89 [F2 p q] (.one (Bo (decide ((-1000000000 ≤ p ∧ p ≤ 1000000000) ∧ q ≤ 1000000000)))) := by
  refine Sat_of_awp (fn := f89) cx_ok (by kernel_rfl) (by kernel_rfl) rfl (by kernel_rfl) (Nat.le_of_ble_eq_true rfl) ?_
  repeat' ((first | refine oP rfl ?_ | refine rP rfl (fun _ z => z) ?_ | (refine kO 1 rfl ?_; refine rG (fun _ z => z) ?_) | (refine kO 3 rfl ?_; refine rLdb rfl rfl rfl rfl rfl rfl rfl ?_) | (refine kO 7 rfl ?_; refine rG (fun _ z => ⟨_, small_sat _ _ (by omega), z⟩) ?_) | refine oN ?_ | refine aS ?_ | refine aR ?_ | refine aT ?_ | refine oY rfl rfl rfl ?_ | refine oZ rfl rfl rfl ?_ | refine opsA_ifp rfl rfl rfl (fun h => ?_) (fun h => ?_)) <;> (try conv => whnf))
  · exact res_bo (by simp [h])
  · exact res_bo (by simp [h])
theorem wFloor_sat (n d : Int) (hn : mid n) (hd : 0 < d ∧ d ≤ 9223372036854775807) : Sat cx.P cx.gl 90 [F2 n d] (.one (I (n / d))) := by
  have b1 := tdiv_bound n hd.1
  have e1 : IntKind.i64.wrap (n.tdiv d) = n.tdiv d := i64_in _ (by omega)
  have f := floor_eq n hd.1
  by_cases h0 : 0 ≤ n
  · have h1 : n.tmod d = n % d := Int.tmod_eq_emod_of_nonneg h0
    have h2 := Int.emod_nonneg n (show d ≠ 0 by omega)
    refine Sat_of_awp (fn := f90) cx_ok (by kernel_rfl) (by kernel_rfl) rfl (by kernel_rfl) (Nat.le_of_ble_eq_true rfl) ?_
    repeat ((first | refine oP rfl ?_ | refine rP rfl (fun _ z => z) ?_ | (refine kO 1 rfl ?_; first | refine rQuo rfl rfl rfl (by omega) ?_ | refine rRem rfl rfl rfl (by omega) ?_ | refine rG (fun _ z => z) ?_) | (refine kO 3 rfl ?_; refine rLdb rfl rfl rfl rfl rfl rfl rfl ?_) | refine oN ?_ | refine aS ?_ | refine aR ?_ | refine aK ?_ | refine aT ?_ | refine aC rfl ?_ | refine bPf (by omega) ?_); (try conv => whnf))
    (done)
  · refine Sat_of_awp (fn := f90) cx_ok (by kernel_rfl) (by kernel_rfl) rfl (by kernel_rfl) (Nat.le_of_ble_eq_true rfl) ?_
    repeat ((first | refine oP rfl ?_ | refine rP rfl (fun _ z => z) ?_ | (refine kO 1 rfl ?_; first | refine rQuo' rfl rfl rfl (by omega) ?_ | refine rRem' rfl rfl rfl (by omega) ?_ | refine rG (fun _ z => z) ?_) | (refine kO 3 rfl ?_; refine rLdb rfl rfl rfl rfl rfl rfl rfl ?_) | refine oN ?_ | refine aS ?_ | refine aR ?_ | refine aC rfl ?_); (try conv => whnf))
    rw [e1]
    rw [f]
    ((refine brp (fun h => ?_) (fun h => ?_)) <;> (try conv => whnf))
    · repeat ((first | refine oP rfl ?_ | refine rP rfl (fun _ z => z) ?_ | (refine kO 1 rfl ?_; refine rSub rfl rfl rfl (by omega) ?_) | refine oN ?_ | refine aS ?_ | refine aR ?_ | refine aT ?_); (try conv => whnf))
      rw [if_pos h]
    · repeat ((first | refine oP rfl ?_ | refine rP rfl (fun _ z => z) ?_ | refine oN ?_ | refine aS ?_ | refine aR ?_ | refine aK ?_ | refine aT ?_); (try conv => whnf))
      rw [if_neg h]
theorem wCeil_sat (n d : Int) (hn : mid n) (hd : 0 < d ∧ d ≤ 9223372036854775807) : Sat cx.P cx.gl 91 [F2 n d] (.one (I (-(-n / d)))) := by
  have b1 := ediv_bound (-n) hd.1
  have g := wFloor_sat (-n) d (by omega) hd
  refine Sat_of_awp (fn := f91) cx_ok (by kernel_rfl) (by kernel_rfl) rfl (by kernel_rfl) (Nat.le_of_ble_eq_true rfl) ?_
  repeat ((first | refine oP rfl ?_ | refine rP rfl (fun _ z => z) ?_ | (refine kO 2 rfl ?_; refine rNeg rfl rfl (by omega) ?_) | (refine kO 3 rfl ?_; refine rLdb rfl rfl rfl rfl rfl rfl rfl ?_) | (refine kO 7 rfl ?_; refine rG (fun _ z => ⟨_, g, z⟩) ?_) | refine oN ?_ | refine aS ?_ | refine aR ?_ | refine aT ?_); (try conv => whnf))
  (done)
theorem around8_sat (n d m k : Int) (hn : mid n) (hd : 0 < d ∧ d ≤ 9223372036854775807) (hm : mid m) (hk : 0 < k ∧ k ≤ 9223372036854775807) : Sat cx.P cx.gl 53 [F2 n d, F2 m k] (.one (F2 (n / d) (-(-m / k)))) := by
  refine Sat_of_awp (fn := f53) cx_ok (by kernel_rfl) (by kernel_rfl) rfl (by kernel_rfl) (Nat.le_of_ble_eq_true rfl) ?_
  repeat ((first | refine oP rfl ?_ | refine rP rfl (fun _ z => z) ?_ | (refine kO 3 rfl ?_; refine rG (fun _ z => z) ?_) | (refine kO 4 rfl ?_; refine rG (fun _ z => z) ?_) | (refine kO 7 rfl ?_; first | refine rG (fun _ z => ⟨_, wFloor_sat n d hn hd, z⟩) ?_ | refine rG (fun _ z => ⟨_, wCeil_sat m k hm hk, z⟩) ?_) | refine oN ?_ | refine aS ?_ | refine aR ?_ | refine aT ?_ | refine dI (by kernel_rfl) ?_); (try conv => whnf))
  (rfl)
theorem stepErr_sat (n : Int) : Sat cx.P cx.gl 70 [I n] (.one (I (if 1 ≤ n ∧ n ≤ 1000000 then 0 else 2))) := by
  refine Sat_of_awp (fn := f70) cx_ok (by kernel_rfl) (by kernel_rfl) rfl (by kernel_rfl) (Nat.le_of_ble_eq_true rfl) ?_
  repeat ((first | refine oP rfl ?_ | refine rP rfl (fun _ z => z) ?_ | (refine kO 7 rfl ?_; first | refine rG (fun _ z => ⟨_, wWithin_p _ _ _, z⟩) ?_ | refine rG (fun _ z => ⟨_, wUnless_p _, z⟩) ?_) | refine oN ?_ | refine aS ?_ | refine aR ?_ | refine aT ?_); (try conv => whnf))
  (rfl)
theorem wFailsF_sat (n m : Int) (hm : mid m) : Sat cx.P cx.gl 106 [I n, (false, [.ref [J m]])] (.one (Bo (!(decide (-m ≤ n) && decide (n ≤ m))))) := by
  have g := small_sat n m hm
  rw [Bool.decide_and] at g
  refine Sat_of_awp (fn := f106) cx_ok (by kernel_rfl) (by kernel_rfl) rfl (by kernel_rfl) (Nat.le_of_ble_eq_true rfl) ?_
  repeat ((first | refine oP rfl ?_ | refine rP rfl (fun _ z => z) ?_ | (refine kO 2 rfl ?_; refine rG (fun _ z => z) ?_) | (refine kO 3 rfl ?_; refine rLdr rfl rfl rfl rfl rfl ?_) | (refine kO 7 rfl ?_; refine rG (fun _ z => ⟨_, g, z⟩) ?_) | refine oN ?_ | refine aS ?_ | refine aR ?_ | refine aT ?_); (try conv => whnf))
  (done)
theorem wFails_sat (l : List Int) (m : Int) (hm : mid m) (hl : l.length ≤ maxLen) : Sat cx.P cx.gl 72 [L l, I m] (.one (I (if AllIn l (-m) m then 0 else 2))) := by
  have g := containsFunc_sat l 106 [] [[J m]] (fun n => !(decide (-m ≤ n) && decide (n ≤ m))) (fun n => wFailsF_sat n m hm) hl
  rw [any_out] at g
  refine Sat_of_awp (fn := f72) cx_ok (by kernel_rfl) (by kernel_rfl) rfl (by kernel_rfl) (Nat.le_of_ble_eq_true rfl) ?_
  repeat ((first | refine oP rfl ?_ | refine rP rfl (fun _ z => z) ?_ | (refine kO 2 rfl ?_; refine rG (fun _ z => z) ?_) | (refine kO 7 rfl ?_; first | refine rG (fun _ z => ⟨_, g, z⟩) ?_ | refine rG (fun _ z => ⟨_, wUnless_p _, z⟩) ?_) | refine oN ?_ | refine aS ?_ | refine aR ?_ | refine aT ?_); (try conv => whnf))
  exact res_i (by simp)
/-- The error of a record. -/
def recErr (st : Int) (l : List Int) : Int := if 1 ≤ st ∧ st ≤ 1000000 then (if 3 ≤ l.length then (if l.length ≤ 64 then (if AllIn l (-4096) 4096 then 0 else 2) else 8) else 10) else 2
theorem fs3 (a b c : Int) : fs [a, b, c] = if a ≠ 0 then a else if b ≠ 0 then b else c := by
  by_cases h : a = 0 <;> by_cases h' : b = 0 <;> by_cases h'' : c = 0 <;> simp [fs, h, h', h'']
theorem fs4 (a b c d : Int) : fs [a, b, c, d] = if a ≠ 0 then a else if b ≠ 0 then b else if c ≠ 0 then c else d := by
  by_cases h : a = 0 <;> by_cases h' : b = 0 <;> by_cases h'' : c = 0 <;> by_cases h3 : d = 0 <;> simp [fs, h, h', h'', h3]
abbrev Rc (st : Int) (l : List Int) : SV := (true, [J st, .ints l])
theorem checkRecord_sat (st : Int) (l : List Int) (hl : l.length ≤ maxLen) : Sat cx.P cx.gl 34 [Rc st l] (.one (I (recErr st l))) := by
  have g := wFails_sat l 4096 (by omega) hl
  unfold maxLen at hl
  have e : fs [if 1 ≤ st ∧ st ≤ 1000000 then 0 else 2, if (3 : Int) ≤ l.length then 0 else 10, if (l.length : Int) ≤ 64 then 0 else 8, if AllIn l (-4096) 4096 then 0 else 2] = recErr st l := by
    rw [fs4]
    unfold recErr
    (repeat' split) <;> omega
  rw [← e]
  refine Sat_of_awp (fn := f34) cx_ok (by kernel_rfl) (by kernel_rfl) rfl (by kernel_rfl) (Nat.le_of_ble_eq_true rfl) ?_
  repeat ((first | refine oP rfl ?_ | refine rP rfl (fun _ z => z) ?_ | (refine kO 1 rfl ?_; refine rG (fun _ z => z) ?_) | (refine kO 3 rfl ?_; refine rLdb rfl rfl rfl rfl rfl rfl rfl ?_) | (refine kO 7 rfl ?_; first | refine rG (fun _ z => ⟨_, stepErr_sat _, z⟩) ?_ | refine rG (fun _ z => ⟨_, wUnless_p _, z⟩) ?_ | refine rG (fun _ z => ⟨_, g, z⟩) ?_ | refine rG (fun _ z => ⟨_, wFirst_fs _ (Nat.le_of_ble_eq_true rfl), z⟩) ?_) | (refine kO 6 rfl ?_; refine rLen rfl rfl rfl rfl rfl rfl ?_) | refine oN ?_ | refine aS ?_ | refine aR ?_ | refine aT ?_ | refine dI (by kernel_rfl) ?_); (try conv => whnf))
  (rfl)
theorem refRecordErr_sat (st : Int) (l : List Int) (hl : l.length ≤ maxLen) : Sat cx.P cx.gl 19 [Rc st l] (.one (I (recErr st l))) := by
  unfold maxLen at hl
  unfold recErr
  refine Sat_of_awp (fn := f19) cx_ok (by kernel_rfl) (by kernel_rfl) rfl (by kernel_rfl) (Nat.le_of_ble_eq_true rfl) ?_
  repeat ((first | refine oP rfl ?_ | refine rP rfl (fun _ z => z) ?_ | (refine kO 2 rfl ?_; refine rG (fun _ z => z) ?_) | (refine kO 3 rfl ?_; refine rLdb rfl rfl rfl rfl rfl rfl rfl ?_) | (refine kO 7 rfl ?_; refine rG (fun _ z => ⟨_, within_p _ _ _, z⟩) ?_) | refine oN ?_ | refine aS ?_ | refine aR ?_ | refine aC rfl ?_); (try conv => whnf))
  ((refine brp (fun h => ?_) (fun h => ?_)) <;> (try conv => whnf))
  · repeat ((first | refine oP rfl ?_ | refine rP rfl (fun _ z => z) ?_ | refine oN ?_ | refine aS ?_ | refine aR ?_ | refine aT ?_); (try conv => whnf))
    rw [if_neg h]; (done)
  · rw [if_pos (by omega)]
    repeat ((first | refine oP rfl ?_ | refine rP rfl (fun _ z => z) ?_ | (refine kO 1 rfl ?_; refine rG (fun _ z => z) ?_) | (refine kO 3 rfl ?_; refine rLdb rfl rfl rfl rfl rfl rfl rfl ?_) | (refine kO 6 rfl ?_; refine rLen rfl rfl rfl rfl rfl rfl ?_) | refine oN ?_ | refine aS ?_ | refine aR ?_ | refine aK ?_ | refine aC rfl ?_); (try conv => whnf))
    ((refine brp (fun h => ?_) (fun h => ?_)) <;> (try conv => whnf))
    · repeat ((first | refine oP rfl ?_ | refine rP rfl (fun _ z => z) ?_ | refine oN ?_ | refine aS ?_ | refine aR ?_ | refine aT ?_); (try conv => whnf))
      rw [if_neg (by omega)]; (done)
    · rw [if_pos (by omega)]
      repeat ((first | refine oP rfl ?_ | refine rP rfl (fun _ z => z) ?_ | (refine kO 1 rfl ?_; refine rG (fun _ z => z) ?_) | (refine kO 3 rfl ?_; refine rLdb rfl rfl rfl rfl rfl rfl rfl ?_) | (refine kO 6 rfl ?_; refine rLen rfl rfl rfl rfl rfl rfl ?_) | refine oN ?_ | refine aS ?_ | refine aR ?_ | refine aK ?_ | refine aC rfl ?_); (try conv => whnf))
      ((refine brp (fun h => ?_) (fun h => ?_)) <;> (try conv => whnf))
      · repeat ((first | refine oP rfl ?_ | refine rP rfl (fun _ z => z) ?_ | refine oN ?_ | refine aS ?_ | refine aR ?_ | refine aT ?_); (try conv => whnf))
        rw [if_neg (by omega)]; (done)
      · rw [if_pos (by omega)]
        repeat ((first | refine oP rfl ?_ | refine rP rfl (fun _ z => z) ?_ | refine oN ?_ | refine aS ?_ | refine aR ?_ | refine aK ?_ | refine aB ?_ | refine aL ?_); (try conv => whnf))
        refine loop_ind (ι := Nat) (fun i => i ≤ l.length ∧ ∀ j < i, -4096 ≤ l.getD j 0 ∧ l.getD j 0 ≤ 4096) (fun i => l.length - i) (fun i => ⟨[(1, pP 0), (3, vI i)], [(0, some (.box 24 [.st (J st), .st (.ints l)]))], 1⟩) 0 (canon_auto (by kernel_rfl)) ⟨Nat.zero_le _, by intro j hj; omega⟩ ?_
        rintro i ⟨hi, he⟩
        repeat ((first | refine oP rfl ?_ | refine rP rfl (fun _ z => z) ?_ | (refine kO 1 rfl ?_; refine rG (fun _ z => z) ?_) | (refine kO 3 rfl ?_; refine rLdb rfl rfl rfl rfl rfl rfl rfl ?_) | (refine kO 6 rfl ?_; refine rLen rfl rfl rfl rfl rfl rfl ?_) | refine oN ?_ | refine aS ?_ | refine aR ?_ | refine aC rfl ?_); (try conv => whnf))
        ((refine brp (fun h => ?_) (fun h => ?_)) <;> (try conv => whnf))
        · have hlt : i < l.length := by omega
          repeat ((first | refine oP rfl ?_ | refine rP rfl (fun _ z => z) ?_ | (refine kO 2 rfl ?_; refine rG (fun _ z => z) ?_) | (refine kO 3 rfl ?_; first | refine rLdr rfl rfl rfl rfl rfl ?_ | refine rLdb rfl rfl rfl rfl rfl rfl rfl ?_) | (refine kO 5 rfl ?_; refine rIdN rfl rfl rfl rfl rfl rfl rfl (by omega) ?_) | (refine kO 7 rfl ?_; refine rG (fun _ z => ⟨_, within_p _ _ _, z⟩) ?_) | refine oN ?_ | refine aS ?_ | refine aR ?_ | refine aK ?_ | refine aB ?_ | refine aC rfl ?_); (try conv => whnf))
          ((refine brp (fun h => ?_) (fun h => ?_)) <;> (try conv => whnf))
          · repeat ((first | refine oP rfl ?_ | refine rP rfl (fun _ z => z) ?_ | refine oN ?_ | refine aS ?_ | refine aR ?_ | refine aT ?_); (try conv => whnf))
            rw [if_neg (not_allIn hlt h)]; (done)
          · have h : -4096 ≤ l.getD i 0 ∧ l.getD i 0 ≤ 4096 := by omega
            repeat ((first | refine oP rfl ?_ | refine rP rfl (fun _ z => z) ?_ | (refine kO 1 rfl ?_; refine rAdd rfl rfl rfl (by omega) ?_) | refine oN ?_ | refine aR ?_ | refine aK ?_); (try conv => whnf))
            refine ⟨i + 1, ⟨hlt, fun j hj => ?_⟩, by omega, canon_auto (by kernel_rfl)⟩
            by_cases e : j = i
            · subst e; exact h
            · exact he j (by omega)
        · obtain rfl : i = l.length := by omega
          repeat ((first | refine oP rfl ?_ | refine rP rfl (fun _ z => z) ?_ | refine oN ?_ | refine aS ?_ | refine aR ?_ | refine aX ?_ | refine aT ?_); (try conv => whnf))
          rw [if_pos (allIn_of he)]; (done)
end Go.Proofs.Tryz

namespace Go.Proofs.Tryz
open Go.Fw Go.IntWalk Go.Plain
set_option maxRecDepth 100000
set_option maxHeartbeats 8000000
/-- A span of two fractions. -/
abbrev Sp : Type := Int × Int × Int × Int
abbrev sp (q : Sp) : List SC := [J q.1, J q.2.1, J q.2.2.1, J q.2.2.2]
abbrev SpI (q : Sp) : Prop := inI q.1 ∧ inI q.2.1 ∧ inI q.2.2.1 ∧ inI q.2.2.2
abbrev Ru (e : Int) (q : Sp) (ch : List Sp) : SV := (true, [J e, J q.1, J q.2.1, J q.2.2.1, J q.2.2.2, .view (ch.map sp)])
theorem wIsLowest_sat (n d : Int) (hn : inI n) (hd : inI d) : Sat cx.P cx.gl 111 [F2 n d] (.one (Bo (decide (0 < d ∧ Int.gcd n d = 1)))) := by
  have := hd.2
  refine Sat_of_awp (fn := f111) cx_ok (by kernel_rfl) (by kernel_rfl) rfl (by kernel_rfl) (Nat.le_of_ble_eq_true rfl) ?_
  repeat ((first | refine oP rfl ?_ | refine rP rfl (fun _ z => z) ?_ | (refine kO 1 rfl ?_; refine rG (fun _ z => z) ?_) | (refine kO 3 rfl ?_; refine rLdb rfl rfl rfl rfl rfl rfl rfl ?_) | refine oN ?_ | refine aS ?_ | refine aR ?_); (try conv => whnf))
  ((refine opsA_ifp rfl rfl rfl (fun h => ?_) (fun h => ?_)) <;> (try conv => whnf))
  · repeat ((first | refine oP rfl ?_ | refine rP rfl (fun _ z => z) ?_ | (refine kO 1 rfl ?_; refine rG (fun _ z => z) ?_) | (refine kO 3 rfl ?_; refine rLdb rfl rfl rfl rfl rfl rfl rfl ?_) | (refine kO 7 rfl ?_; refine rG (fun _ z => ⟨_, wDivisor_sat n d hn ⟨by omega, by omega⟩ (fun _ => by omega), z⟩) ?_) | refine oN ?_ | refine aT ?_ | refine oY rfl rfl rfl ?_); (try conv => whnf))
    exact res_bo (by rw [Bool.eq_iff_iff, beq_iff_eq, decide_eq_true_iff]; omega)
  · repeat ((first | refine oP rfl ?_ | refine rP rfl (fun _ z => z) ?_ | refine oN ?_ | refine aT ?_ | refine oZ rfl rfl rfl ?_); (try conv => whnf))
    exact res_bo (by rw [eq_comm, decide_eq_false_iff_not]; omega)
theorem isFactor_sat (n d : Int) : Sat cx.P cx.gl 113 [F2 n d] (.one (Bo (decide ((1 ≤ n ∧ n ≤ 1000) ∧ d ≤ 1000)))) := by
  refine Sat_of_awp (fn := f113) cx_ok (by kernel_rfl) (by kernel_rfl) rfl (by kernel_rfl) (Nat.le_of_ble_eq_true rfl) ?_
  repeat' ((first | refine oP rfl ?_ | refine rP rfl (fun _ z => z) ?_ | (refine kO 1 rfl ?_; refine rG (fun _ z => z) ?_) | (refine kO 3 rfl ?_; refine rLdb rfl rfl rfl rfl rfl rfl rfl ?_) | (refine kO 7 rfl ?_; refine rG (fun _ z => ⟨_, wWithin_p _ _ _, z⟩) ?_) | refine oN ?_ | refine aS ?_ | refine aR ?_ | refine aT ?_ | refine oY rfl rfl rfl ?_ | refine oZ rfl rfl rfl ?_ | refine opsA_ifp rfl rfl rfl (fun h => ?_) (fun h => ?_)) <;> (try conv => whnf))
  · exact res_bo (by simp [h])
  · exact res_bo (by simp [h])
theorem wLess_sat (a b c d : Int) (h1 : mid (a * d)) (h2 : mid (c * b)) : Sat cx.P cx.gl 94 [F2 a b, F2 c d] (.one (Bo (decide (a * d < c * b)))) := by
  refine Sat_of_awp (fn := f94) cx_ok (by kernel_rfl) (by kernel_rfl) rfl (by kernel_rfl) (Nat.le_of_ble_eq_true rfl) ?_
  repeat ((first | refine oP rfl ?_ | refine rP rfl (fun _ z => z) ?_ | (refine kO 1 rfl ?_; first | refine rMul rfl rfl rfl (by omega) ?_ | refine rG (fun _ z => z) ?_) | (refine kO 3 rfl ?_; refine rLdb rfl rfl rfl rfl rfl rfl rfl ?_) | refine oN ?_ | refine aS ?_ | refine aR ?_ | refine aT ?_); (try conv => whnf))
  (done)
def facErr (q : Sp) : Int := if (0 < q.2.1 ∧ Int.gcd q.1 q.2.1 = 1) ∧ 0 < q.2.2.2 ∧ Int.gcd q.2.2.1 q.2.2.2 = 1 then (if ((1 ≤ q.1 ∧ q.1 ≤ 1000) ∧ q.2.1 ≤ 1000) ∧ (1 ≤ q.2.2.1 ∧ q.2.2.1 ≤ 1000) ∧ q.2.2.2 ≤ 1000 then (if q.2.2.1 * q.2.1 < q.1 * q.2.2.2 then 9 else 0) else 2) else 3
theorem fs2 (a b : Int) : fs [a, b] = if a ≠ 0 then a else b := by
  by_cases h : a = 0 <;> by_cases h' : b = 0 <;> simp [fs, h, h']
theorem fac_mid {a d : Int} (h1 : 1 ≤ a ∧ a ≤ 1000) (h2 : 0 < d ∧ d ≤ 1000) : mid (a * d) := by
  have h3 : 0 ≤ a * d := Int.mul_nonneg (by omega) (by omega)
  have h4 : a * d ≤ 1000 * 1000 := Int.mul_le_mul h1.2 h2.2 (by omega) (by omega)
  omega
theorem factorErr_sat (q : Sp) (hq : SpI q) : Sat cx.P cx.gl 75 [(true, sp q)] (.one (I (facErr q))) := by
  obtain ⟨a, b, c, d⟩ := q
  obtain ⟨ha, hb, hc, hd⟩ := hq
  simp only at ha hb hc hd
  change Sat cx.P cx.gl 75 [F4 a b c d] _
  unfold facErr
  simp only
  have l1 := wIsLowest_sat a b ha hb
  have l2 := wIsLowest_sat c d hc hd
  have f1 := isFactor_sat a b
  have f2 := isFactor_sat c d
  by_cases k1 : (0 < b ∧ Int.gcd a b = 1) ∧ 0 < d ∧ Int.gcd c d = 1
  · rw [if_pos k1]
    rw [decide_eq_true k1.1] at l1
    rw [decide_eq_true k1.2] at l2
    by_cases k2 : ((1 ≤ a ∧ a ≤ 1000) ∧ b ≤ 1000) ∧ (1 ≤ c ∧ c ≤ 1000) ∧ d ≤ 1000
    · rw [if_pos k2]
      rw [decide_eq_true k2.1] at f1
      rw [decide_eq_true k2.2] at f2
      have g := wLess_sat c d a b (fac_mid k2.2.1 ⟨k1.1.1, k2.1.2⟩) (fac_mid k2.1.1 ⟨k1.2.1, k2.2.2⟩)
      refine Sat_of_awp (fn := f75) cx_ok (by kernel_rfl) (by kernel_rfl) rfl (by kernel_rfl) (Nat.le_of_ble_eq_true rfl) ?_
      repeat ((first | refine oP rfl ?_ | refine rP rfl (fun _ z => z) ?_ | (refine kO 1 rfl ?_; refine rG (fun _ z => z) ?_) | (refine kO 2 rfl ?_; refine rG (fun _ z => z) ?_) | (refine kO 3 rfl ?_; refine rG (fun _ z => z) ?_) | (refine kO 7 rfl ?_; first | refine rG (fun _ z => ⟨_, l1, z⟩) ?_ | refine rG (fun _ z => ⟨_, l2, z⟩) ?_ | refine rG (fun _ z => ⟨_, f1, z⟩) ?_ | refine rG (fun _ z => ⟨_, f2, z⟩) ?_ | refine rG (fun _ z => ⟨_, wUnless_p _, z⟩) ?_ | refine rG (fun _ z => ⟨_, wFirst_fs _ (Nat.le_of_ble_eq_true rfl), z⟩) ?_ | refine rG (fun _ z => ⟨_, g, z⟩) ?_) | refine oN ?_ | refine aS ?_ | refine aR ?_ | refine aK ?_ | refine aT ?_ | refine aC rfl ?_ | refine bF ?_ | refine oY rfl rfl rfl ?_ | refine dI (by kernel_rfl) ?_); (try conv => whnf))
      exact res_i (by by_cases h : c * b < a * d <;> simp [h])
    · rw [if_neg k2]
      by_cases k3 : (1 ≤ a ∧ a ≤ 1000) ∧ b ≤ 1000
      · rw [decide_eq_true k3] at f1
        rw [decide_eq_false (show ¬ ((1 ≤ c ∧ c ≤ 1000) ∧ d ≤ 1000) from fun h => k2 ⟨k3, h⟩)] at f2
        refine Sat_of_awp (fn := f75) cx_ok (by kernel_rfl) (by kernel_rfl) rfl (by kernel_rfl) (Nat.le_of_ble_eq_true rfl) ?_
        repeat ((first | refine oP rfl ?_ | refine rP rfl (fun _ z => z) ?_ | (refine kO 1 rfl ?_; refine rG (fun _ z => z) ?_) | (refine kO 3 rfl ?_; refine rG (fun _ z => z) ?_) | (refine kO 7 rfl ?_; first | refine rG (fun _ z => ⟨_, l1, z⟩) ?_ | refine rG (fun _ z => ⟨_, l2, z⟩) ?_ | refine rG (fun _ z => ⟨_, f1, z⟩) ?_ | refine rG (fun _ z => ⟨_, f2, z⟩) ?_ | refine rG (fun _ z => ⟨_, wUnless_p _, z⟩) ?_ | refine rG (fun _ z => ⟨_, wFirst_fs _ (Nat.le_of_ble_eq_true rfl), z⟩) ?_) | refine oN ?_ | refine aS ?_ | refine aR ?_ | refine aT ?_ | refine aC rfl ?_ | refine bT ?_ | refine oY rfl rfl rfl ?_ | refine dI (by kernel_rfl) ?_); (try conv => whnf))
        (rfl)
      · rw [decide_eq_false k3] at f1
        refine Sat_of_awp (fn := f75) cx_ok (by kernel_rfl) (by kernel_rfl) rfl (by kernel_rfl) (Nat.le_of_ble_eq_true rfl) ?_
        repeat ((first | refine oP rfl ?_ | refine rP rfl (fun _ z => z) ?_ | (refine kO 1 rfl ?_; refine rG (fun _ z => z) ?_) | (refine kO 3 rfl ?_; refine rG (fun _ z => z) ?_) | (refine kO 7 rfl ?_; first | refine rG (fun _ z => ⟨_, l1, z⟩) ?_ | refine rG (fun _ z => ⟨_, l2, z⟩) ?_ | refine rG (fun _ z => ⟨_, f1, z⟩) ?_ | refine rG (fun _ z => ⟨_, wUnless_p _, z⟩) ?_ | refine rG (fun _ z => ⟨_, wFirst_fs _ (Nat.le_of_ble_eq_true rfl), z⟩) ?_) | refine oN ?_ | refine aS ?_ | refine aR ?_ | refine aT ?_ | refine aC rfl ?_ | refine bT ?_ | refine oY rfl rfl rfl ?_ | refine oZ rfl rfl rfl ?_ | refine dI (by kernel_rfl) ?_); (try conv => whnf))
        (rfl)
  · rw [if_neg k1]
    by_cases k3 : 0 < b ∧ Int.gcd a b = 1
    · rw [decide_eq_true k3] at l1
      rw [decide_eq_false (show ¬ (0 < d ∧ Int.gcd c d = 1) from fun h => k1 ⟨k3, h⟩)] at l2
      refine Sat_of_awp (fn := f75) cx_ok (by kernel_rfl) (by kernel_rfl) rfl (by kernel_rfl) (Nat.le_of_ble_eq_true rfl) ?_
      repeat' ((first | refine oP rfl ?_ | refine rP rfl (fun _ z => z) ?_ | (refine kO 1 rfl ?_; refine rG (fun _ z => z) ?_) | (refine kO 3 rfl ?_; refine rG (fun _ z => z) ?_) | (refine kO 7 rfl ?_; first | refine rG (fun _ z => ⟨_, l1, z⟩) ?_ | refine rG (fun _ z => ⟨_, l2, z⟩) ?_ | refine rG (fun _ z => ⟨_, f1, z⟩) ?_ | refine rG (fun _ z => ⟨_, f2, z⟩) ?_ | refine rG (fun _ z => ⟨_, wUnless_p _, z⟩) ?_ | refine rG (fun _ z => ⟨_, wFirst_fs _ (Nat.le_of_ble_eq_true rfl), z⟩) ?_) | refine oN ?_ | refine aS ?_ | refine aR ?_ | refine aT ?_ | refine aC rfl ?_ | refine bT ?_ | refine oY rfl rfl rfl ?_ | refine oZ rfl rfl rfl ?_ | refine dI (by kernel_rfl) ?_ | refine opsA_ifp rfl rfl rfl (fun h => ?_) (fun h => ?_)) <;> (try conv => whnf))
      all_goals (rfl)
    · rw [decide_eq_false k3] at l1
      refine Sat_of_awp (fn := f75) cx_ok (by kernel_rfl) (by kernel_rfl) rfl (by kernel_rfl) (Nat.le_of_ble_eq_true rfl) ?_
      repeat' ((first | refine oP rfl ?_ | refine rP rfl (fun _ z => z) ?_ | (refine kO 1 rfl ?_; refine rG (fun _ z => z) ?_) | (refine kO 3 rfl ?_; refine rG (fun _ z => z) ?_) | (refine kO 7 rfl ?_; first | refine rG (fun _ z => ⟨_, l1, z⟩) ?_ | refine rG (fun _ z => ⟨_, f1, z⟩) ?_ | refine rG (fun _ z => ⟨_, f2, z⟩) ?_ | refine rG (fun _ z => ⟨_, wUnless_p _, z⟩) ?_ | refine rG (fun _ z => ⟨_, wFirst_fs _ (Nat.le_of_ble_eq_true rfl), z⟩) ?_) | refine oN ?_ | refine aS ?_ | refine aR ?_ | refine aT ?_ | refine aC rfl ?_ | refine bT ?_ | refine oY rfl rfl rfl ?_ | refine oZ rfl rfl rfl ?_ | refine dI (by kernel_rfl) ?_ | refine opsA_ifp rfl rfl rfl (fun h => ?_) (fun h => ?_)) <;> (try conv => whnf))
      all_goals (rfl)
theorem refFactorErr_sat (q : Sp) (hq : SpI q) : Sat cx.P cx.gl 45 [(true, sp q)] (.one (I (facErr q))) := by
  obtain ⟨a, b, c, d⟩ := q
  obtain ⟨ha, hb, hc, hd⟩ := hq
  simp only at ha hb hc hd
  change Sat cx.P cx.gl 45 [F4 a b c d] _
  unfold facErr
  simp only
  have l1 := isLowest_sat a b ha hb
  have l2 := isLowest_sat c d hc hd
  by_cases k1 : (0 < b ∧ Int.gcd a b = 1) ∧ 0 < d ∧ Int.gcd c d = 1
  · rw [if_pos k1]
    rw [decide_eq_true k1.1] at l1
    rw [decide_eq_true k1.2] at l2
    by_cases k2 : ((1 ≤ a ∧ a ≤ 1000) ∧ b ≤ 1000) ∧ (1 ≤ c ∧ c ≤ 1000) ∧ d ≤ 1000
    · rw [if_pos k2]
      have m1 := fac_mid k2.1.1 ⟨k1.2.1, k2.2.2⟩
      have m2 := fac_mid k2.2.1 ⟨k1.1.1, k2.1.2⟩
      have g := cmp_sat a b c d (by omega) (by omega)
      unfold cmpF at g
      by_cases k : c * b < a * d
      · rw [if_neg (by omega), if_pos k] at g
        rw [if_pos k]
        refine Sat_of_awp (fn := f45) cx_ok (by kernel_rfl) (by kernel_rfl) rfl (by kernel_rfl) (Nat.le_of_ble_eq_true rfl) ?_
        repeat ((first | refine oP rfl ?_ | refine rP rfl (fun _ z => z) ?_ | (refine kO 1 rfl ?_; refine rG (fun _ z => z) ?_) | (refine kO 2 rfl ?_; refine rG (fun _ z => z) ?_) | (refine kO 3 rfl ?_; first | refine rLdb rfl rfl rfl rfl rfl rfl rfl ?_ | refine rG (fun _ z => z) ?_) | (refine kO 7 rfl ?_; first | refine rG (fun _ z => ⟨_, l1, z⟩) ?_ | refine rG (fun _ z => ⟨_, l2, z⟩) ?_ | refine rG (fun _ z => ⟨_, within_p _ _ _, z⟩) ?_ | refine rG (fun _ z => ⟨_, g, z⟩) ?_) | refine oN ?_ | refine aS ?_ | refine aR ?_ | refine aK ?_ | refine aT ?_ | refine aC rfl ?_ | refine bT ?_ | refine bF ?_ | refine bPf (by omega) ?_ | refine oY rfl rfl rfl ?_ | refine oUf rfl rfl rfl (by omega) ?_); (try conv => whnf))
        (done)
      · rw [if_neg k]
        by_cases k' : a * d < c * b
        · rw [if_pos k'] at g
          refine Sat_of_awp (fn := f45) cx_ok (by kernel_rfl) (by kernel_rfl) rfl (by kernel_rfl) (Nat.le_of_ble_eq_true rfl) ?_
          repeat ((first | refine oP rfl ?_ | refine rP rfl (fun _ z => z) ?_ | (refine kO 1 rfl ?_; refine rG (fun _ z => z) ?_) | (refine kO 2 rfl ?_; refine rG (fun _ z => z) ?_) | (refine kO 3 rfl ?_; first | refine rLdb rfl rfl rfl rfl rfl rfl rfl ?_ | refine rG (fun _ z => z) ?_) | (refine kO 7 rfl ?_; first | refine rG (fun _ z => ⟨_, l1, z⟩) ?_ | refine rG (fun _ z => ⟨_, l2, z⟩) ?_ | refine rG (fun _ z => ⟨_, within_p _ _ _, z⟩) ?_ | refine rG (fun _ z => ⟨_, g, z⟩) ?_) | refine oN ?_ | refine aS ?_ | refine aR ?_ | refine aK ?_ | refine aT ?_ | refine aC rfl ?_ | refine bF ?_ | refine bPf (by omega) ?_ | refine oY rfl rfl rfl ?_ | refine oUf rfl rfl rfl (by omega) ?_); (try conv => whnf))
          (done)
        · rw [if_neg k', if_neg k] at g
          refine Sat_of_awp (fn := f45) cx_ok (by kernel_rfl) (by kernel_rfl) rfl (by kernel_rfl) (Nat.le_of_ble_eq_true rfl) ?_
          repeat ((first | refine oP rfl ?_ | refine rP rfl (fun _ z => z) ?_ | (refine kO 1 rfl ?_; refine rG (fun _ z => z) ?_) | (refine kO 2 rfl ?_; refine rG (fun _ z => z) ?_) | (refine kO 3 rfl ?_; first | refine rLdb rfl rfl rfl rfl rfl rfl rfl ?_ | refine rG (fun _ z => z) ?_) | (refine kO 7 rfl ?_; first | refine rG (fun _ z => ⟨_, l1, z⟩) ?_ | refine rG (fun _ z => ⟨_, l2, z⟩) ?_ | refine rG (fun _ z => ⟨_, within_p _ _ _, z⟩) ?_ | refine rG (fun _ z => ⟨_, g, z⟩) ?_) | refine oN ?_ | refine aS ?_ | refine aR ?_ | refine aK ?_ | refine aT ?_ | refine aC rfl ?_ | refine bF ?_ | refine bPf (by omega) ?_ | refine oY rfl rfl rfl ?_ | refine oUf rfl rfl rfl (by omega) ?_); (try conv => whnf))
          (done)
    · rw [if_neg k2]
      refine Sat_of_awp (fn := f45) cx_ok (by kernel_rfl) (by kernel_rfl) rfl (by kernel_rfl) (Nat.le_of_ble_eq_true rfl) ?_
      repeat' ((first | refine oP rfl ?_ | refine rP rfl (fun _ z => z) ?_ | (refine kO 1 rfl ?_; refine rG (fun _ z => z) ?_) | (refine kO 2 rfl ?_; refine rG (fun _ z => z) ?_) | (refine kO 3 rfl ?_; first | refine rLdb rfl rfl rfl rfl rfl rfl rfl ?_ | refine rG (fun _ z => z) ?_) | (refine kO 7 rfl ?_; first | refine rG (fun _ z => ⟨_, l1, z⟩) ?_ | refine rG (fun _ z => ⟨_, l2, z⟩) ?_ | refine rG (fun _ z => ⟨_, within_p _ _ _, z⟩) ?_) | refine oN ?_ | refine aS ?_ | refine aR ?_ | refine aK ?_ | refine aT ?_ | refine aC rfl ?_ | refine bT ?_ | refine bF ?_ | refine bPt (by omega) ?_ | refine oY rfl rfl rfl ?_ | refine oZ rfl rfl rfl ?_ | refine opsA_unlessp rfl rfl rfl (fun h => ?_) (fun h => ?_)) <;> (try conv => whnf))
      all_goals fail
  · rw [if_neg k1]
    by_cases k3 : 0 < b ∧ Int.gcd a b = 1
    · rw [decide_eq_true k3] at l1
      rw [decide_eq_false (show ¬ (0 < d ∧ Int.gcd c d = 1) from fun h => k1 ⟨k3, h⟩)] at l2
      refine Sat_of_awp (fn := f45) cx_ok (by kernel_rfl) (by kernel_rfl) rfl (by kernel_rfl) (Nat.le_of_ble_eq_true rfl) ?_
      repeat ((first | refine oP rfl ?_ | refine rP rfl (fun _ z => z) ?_ | (refine kO 2 rfl ?_; refine rG (fun _ z => z) ?_) | (refine kO 3 rfl ?_; refine rG (fun _ z => z) ?_) | (refine kO 7 rfl ?_; first | refine rG (fun _ z => ⟨_, l1, z⟩) ?_ | refine rG (fun _ z => ⟨_, l2, z⟩) ?_) | refine oN ?_ | refine aS ?_ | refine aR ?_ | refine aT ?_ | refine aC rfl ?_ | refine bT ?_ | refine oY rfl rfl rfl ?_); (try conv => whnf))
      (done)
    · rw [decide_eq_false k3] at l1
      refine Sat_of_awp (fn := f45) cx_ok (by kernel_rfl) (by kernel_rfl) rfl (by kernel_rfl) (Nat.le_of_ble_eq_true rfl) ?_
      repeat ((first | refine oP rfl ?_ | refine rP rfl (fun _ z => z) ?_ | (refine kO 2 rfl ?_; refine rG (fun _ z => z) ?_) | (refine kO 3 rfl ?_; refine rG (fun _ z => z) ?_) | (refine kO 7 rfl ?_; refine rG (fun _ z => ⟨_, l1, z⟩) ?_) | refine oN ?_ | refine aS ?_ | refine aR ?_ | refine aT ?_ | refine aC rfl ?_ | refine bT ?_ | refine oZ rfl rfl rfl ?_); (try conv => whnf))
      (done)
/-- The error of rules. -/
def rulesErr (e : Int) (q : Sp) (ch : List Sp) : Int := if 0 ≤ e ∧ e ≤ 100 then (if facErr q ≠ 0 then facErr q else if ch.length ≤ 4 then fs (ch.map facErr) else 8) else 2
theorem sp_get {ch : List Sp} {i : Nat} (h : i < ch.length) : (ch.map sp)[i]? = some (sp (ch.getD i (0, 0, 0, 0))) := by
  simp [List.getD_eq_getElem?_getD, h]
theorem sp_mem {ch : List Sp} {i : Nat} (h : i < ch.length) : ch.getD i (0, 0, 0, 0) ∈ ch := by
  simp [List.getD_eq_getElem?_getD, h]
theorem fs_drop {ch : List Sp} {i : Nat} (h : i < ch.length) : fs ((ch.drop i).map facErr) = if facErr (ch.getD i (0, 0, 0, 0)) ≠ 0 then facErr (ch.getD i (0, 0, 0, 0)) else fs ((ch.drop (i + 1)).map facErr) := by
  rw [List.drop_eq_getElem_cons h, List.map_cons]
  simp [fs, List.getD_eq_getElem?_getD, h]
theorem checkRules_sat (e : Int) (q : Sp) (ch : List Sp) (hq : SpI q) (hch : ∀ s ∈ ch, SpI s) (hl : ch.length ≤ 4294967296) : Sat cx.P cx.gl 36 [Ru e q ch] (.one (I (rulesErr e q ch))) := by
  have f3 := fs3 (if 0 ≤ e ∧ e ≤ 100 then 0 else 2) (facErr q) (if ((ch.map sp).length : Int) ≤ 4 then 0 else 8)
  have g := factorErr_sat q hq
  have key : rulesErr e q ch = if fs [if 0 ≤ e ∧ e ≤ 100 then 0 else 2, facErr q, if ((ch.map sp).length : Int) ≤ 4 then 0 else 8] ≠ 0 then fs [if 0 ≤ e ∧ e ≤ 100 then 0 else 2, facErr q, if ((ch.map sp).length : Int) ≤ 4 then 0 else 8] else fs (ch.map facErr) := by
    rw [f3, List.length_map]; unfold rulesErr
    (repeat' split) <;> omega
  rw [key]
  clear key f3
  refine Sat_of_awp (fn := f36) cx_ok (by kernel_rfl) (by kernel_rfl) rfl (by kernel_rfl) (Nat.le_of_ble_eq_true rfl) ?_
  repeat ((first | refine oP rfl ?_ | refine rP rfl (fun _ z => z) ?_ | (refine kO 1 rfl ?_; refine rG (fun _ z => z) ?_) | (refine kO 3 rfl ?_; first | refine rLdb rfl rfl rfl rfl rfl rfl rfl ?_ | refine rG (fun _ z => z) ?_) | (refine kO 7 rfl ?_; first | refine rG (fun _ z => ⟨_, wWithin_p _ _ _, z⟩) ?_ | refine rG (fun _ z => ⟨_, g, z⟩) ?_ | refine rG (fun _ z => ⟨_, wUnless_p _, z⟩) ?_ | refine rG (fun _ z => ⟨_, wFirst_fs _ (Nat.le_of_ble_eq_true rfl), z⟩) ?_) | (refine kO 6 rfl ?_; refine rLenv rfl rfl rfl rfl rfl rfl ?_) | refine oN ?_ | refine aS ?_ | refine aR ?_ | refine aC rfl ?_ | refine dI (by kernel_rfl) ?_); (try conv => whnf))
  ((refine brp (fun h => ?_) (fun h => ?_)) <;> (try conv => whnf))
  · repeat ((first | refine oP rfl ?_ | refine rP rfl (fun _ z => z) ?_ | refine oN ?_ | refine aS ?_ | refine aR ?_ | refine aT ?_); (try conv => whnf))
    rw [if_pos h]; (rfl)
  · rw [if_neg h]
    repeat ((first | refine oP rfl ?_ | refine rP rfl (fun _ z => z) ?_ | (refine kO 3 rfl ?_; refine rLdb rfl rfl rfl rfl rfl rfl rfl ?_) | (refine kO 6 rfl ?_; refine rLenv rfl rfl rfl rfl rfl rfl ?_) | refine oN ?_ | refine aS ?_ | refine aR ?_ | refine aK ?_ | refine aB ?_ | refine aL ?_); (try conv => whnf))
    refine loop_ind (ι := Nat) (fun i => i ≤ ch.length ∧ fs (ch.map facErr) = fs ((ch.drop i).map facErr)) (fun i => ch.length - i) (fun i => ⟨[(25, some (.val (false, [.st (.view (ch.map sp))]))), (26, vI ch.length), (27, vI i)], [], 0⟩) 0 (canon_auto (by rw [List.length_map]; kernel_rfl)) ⟨Nat.zero_le _, rfl⟩ ?_
    rintro i ⟨hi, he⟩
    repeat ((first | refine oP rfl ?_ | (refine kO 1 rfl ?_; refine rG (fun _ z => z) ?_) | refine oN ?_ | refine aS ?_ | refine aR ?_ | refine aC rfl ?_); (try conv => whnf))
    ((refine brp (fun h => ?_) (fun h => ?_)) <;> (try conv => whnf))
    · have hlt : i < ch.length := by omega
      have hget := sp_get hlt
      have g := factorErr_sat _ (hch _ (sp_mem hlt))
      rw [fs_drop hlt] at he
      repeat ((first | refine oP rfl ?_ | refine rP rfl (fun _ z => z) ?_ | (refine kO 1 rfl ?_; refine rG (fun _ z => z) ?_) | (refine kO 3 rfl ?_; refine rG (fun _ z => z) ?_) | (refine kO 4 rfl ?_; refine rG (fun _ z => z) ?_) | (refine kO 5 rfl ?_; refine rIdvN rfl rfl rfl rfl rfl rfl (by assumption) rfl ?_) | (refine kO 7 rfl ?_; refine rG (fun _ z => ⟨_, g, z⟩) ?_) | refine oN ?_ | refine aS ?_ | refine aR ?_ | refine aK ?_ | refine aB ?_ | refine aC rfl ?_); (try conv => whnf))
      ((refine brp (fun h => ?_) (fun h => ?_)) <;> (try conv => whnf))
      · repeat ((first | refine oP rfl ?_ | refine rP rfl (fun _ z => z) ?_ | refine oN ?_ | refine aS ?_ | refine aR ?_ | refine aT ?_); (try conv => whnf))
        rw [he, if_pos h]; (rfl)
      · rw [if_neg h] at he
        repeat ((first | refine oP rfl ?_ | refine rP rfl (fun _ z => z) ?_ | (refine kO 1 rfl ?_; refine rAdd rfl rfl rfl (by omega) ?_) | refine oN ?_ | refine aR ?_ | refine aK ?_); (try conv => whnf))
        exact ⟨i + 1, ⟨hlt, he⟩, by omega, canon_auto (by kernel_rfl)⟩
    · obtain rfl : i = ch.length := by omega
      repeat ((first | refine oP rfl ?_ | refine rP rfl (fun _ z => z) ?_ | refine oN ?_ | refine aS ?_ | refine aR ?_ | refine aX ?_ | refine aT ?_); (try conv => whnf))
      rw [he, List.drop_length]; (rfl)
end Go.Proofs.Tryz

namespace Go.Proofs.Tryz
open Go.Fw Go.IntWalk Go.Plain
set_option maxRecDepth 100000
set_option maxHeartbeats 8000000
theorem awake8_sat : Sat cx.P cx.gl 4 [] (.one (Bo true)) := fnE_ok cx_ok (L := 300) 40 _ _ _ (by kernel_rfl)
theorem mulS {x y A B : Int} (hx : -A ≤ x ∧ x ≤ A) (hy : -B ≤ y ∧ y ≤ B) (hA : 0 ≤ A) : -(A * B) ≤ x * y ∧ x * y ≤ A * B := by
  have h : (x * y).natAbs ≤ A.natAbs * B.natAbs := by
    rw [Int.natAbs_mul]; exact Nat.mul_le_mul (by omega) (by omega)
  rw [← Int.natAbs_mul] at h
  have h2 : 0 ≤ A * B := Int.mul_nonneg hA (by omega)
  omega
end Go.Proofs.Tryz

namespace Go.Proofs.Tryz
open Go.Fw Go.IntWalk Go.Plain
set_option maxRecDepth 100000
set_option maxHeartbeats 8000000
theorem refRulesErr_sat (e : Int) (q : Sp) (ch : List Sp) (hq : SpI q) (hch : ∀ s ∈ ch, SpI s) : Sat cx.P cx.gl 20 [Ru e q ch] (.one (I (rulesErr e q ch))) := by
  have g := refFactorErr_sat q hq
  unfold rulesErr
  by_cases h1 : 0 ≤ e ∧ e ≤ 100
  · rw [if_pos h1]
    by_cases h2 : facErr q = 0
    · rw [if_neg (by omega)]
      rw [h2] at g
      by_cases h3 : ch.length ≤ 4
      · rw [if_pos h3]
        have hlen : (ch.map sp).length = ch.length := List.length_map ..
        refine Sat_of_awp (fn := f20) cx_ok (by kernel_rfl) (by kernel_rfl) rfl (by kernel_rfl) (Nat.le_of_ble_eq_true rfl) ?_
        repeat ((first | refine oP rfl ?_ | refine rP rfl (fun _ z => z) ?_ | (refine kO 1 rfl ?_; refine rG (fun _ z => z) ?_) | (refine kO 2 rfl ?_; refine rG (fun _ z => z) ?_) | (refine kO 3 rfl ?_; first | refine rLdb rfl rfl rfl rfl rfl rfl rfl ?_ | refine rG (fun _ z => z) ?_) | (refine kO 7 rfl ?_; first | refine rG (fun _ z => ⟨_, within_p _ _ _, z⟩) ?_ | refine rG (fun _ z => ⟨_, g, z⟩) ?_) | (refine kO 6 rfl ?_; refine rLenv rfl rfl rfl rfl rfl rfl ?_) | refine oN ?_ | refine aS ?_ | refine aR ?_ | refine aK ?_ | refine aB ?_ | refine aC rfl ?_ | refine bF ?_ | refine bPf (by omega) ?_ | refine aL ?_); (try conv => whnf))
        refine loop_ind (ι := Nat) (fun i => i ≤ ch.length ∧ fs (ch.map facErr) = fs ((ch.drop i).map facErr)) (fun i => ch.length - i) (fun i => ⟨[(1, pP 0), (4, vI i)], [(0, some (.box 31 [.st (J e), .st (J q.1), .st (J q.2.1), .st (J q.2.2.1), .st (J q.2.2.2), .st (.view (ch.map sp))]))], 1⟩) 0 (canon_auto (by kernel_rfl)) ⟨Nat.zero_le _, rfl⟩ ?_
        rintro i ⟨hi, he⟩
        repeat ((first | refine oP rfl ?_ | refine rP rfl (fun _ z => z) ?_ | (refine kO 1 rfl ?_; refine rG (fun _ z => z) ?_) | (refine kO 3 rfl ?_; refine rLdb rfl rfl rfl rfl rfl rfl rfl ?_) | (refine kO 6 rfl ?_; refine rLenv rfl rfl rfl rfl rfl rfl ?_) | refine oN ?_ | refine aS ?_ | refine aR ?_ | refine aC rfl ?_); (try conv => whnf))
        ((refine brp (fun h => ?_) (fun h => ?_)) <;> (try conv => whnf))
        · have hlt : i < ch.length := by omega
          have hget := sp_get hlt
          have g := refFactorErr_sat _ (hch _ (sp_mem hlt))
          rw [fs_drop hlt] at he
          repeat ((first | refine oP rfl ?_ | refine rP rfl (fun _ z => z) ?_ | (refine kO 1 rfl ?_; refine rG (fun _ z => z) ?_) | (refine kO 3 rfl ?_; first | refine rLdb rfl rfl rfl rfl rfl rfl rfl ?_ | refine rG (fun _ z => z) ?_) | (refine kO 5 rfl ?_; refine rIdvN rfl rfl rfl rfl rfl rfl (by assumption) rfl ?_) | (refine kO 7 rfl ?_; refine rG (fun _ z => ⟨_, g, z⟩) ?_) | refine oN ?_ | refine aS ?_ | refine aR ?_ | refine aK ?_ | refine aB ?_ | refine aC rfl ?_); (try conv => whnf))
          ((refine brp (fun h => ?_) (fun h => ?_)) <;> (try conv => whnf))
          · repeat ((first | refine oP rfl ?_ | refine rP rfl (fun _ z => z) ?_ | refine oN ?_ | refine aS ?_ | refine aR ?_ | refine aT ?_); (try conv => whnf))
            rw [he, if_pos h]; (rfl)
          · rw [if_neg h] at he
            repeat ((first | refine oP rfl ?_ | refine rP rfl (fun _ z => z) ?_ | (refine kO 1 rfl ?_; refine rAdd rfl rfl rfl (by omega) ?_) | refine oN ?_ | refine aR ?_ | refine aK ?_); (try conv => whnf))
            exact ⟨i + 1, ⟨hlt, he⟩, by omega, canon_auto (by kernel_rfl)⟩
        · obtain rfl : i = ch.length := by omega
          repeat ((first | refine oP rfl ?_ | refine rP rfl (fun _ z => z) ?_ | refine oN ?_ | refine aS ?_ | refine aR ?_ | refine aX ?_ | refine aT ?_); (try conv => whnf))
          rw [he, List.drop_length]; (rfl)
      · rw [if_neg h3]
        have hlen : (ch.map sp).length = ch.length := List.length_map ..
        refine Sat_of_awp (fn := f20) cx_ok (by kernel_rfl) (by kernel_rfl) rfl (by kernel_rfl) (Nat.le_of_ble_eq_true rfl) ?_
        repeat ((first | refine oP rfl ?_ | refine rP rfl (fun _ z => z) ?_ | (refine kO 1 rfl ?_; refine rG (fun _ z => z) ?_) | (refine kO 2 rfl ?_; refine rG (fun _ z => z) ?_) | (refine kO 3 rfl ?_; first | refine rLdb rfl rfl rfl rfl rfl rfl rfl ?_ | refine rG (fun _ z => z) ?_) | (refine kO 7 rfl ?_; first | refine rG (fun _ z => ⟨_, within_p _ _ _, z⟩) ?_ | refine rG (fun _ z => ⟨_, g, z⟩) ?_) | (refine kO 6 rfl ?_; refine rLenv rfl rfl rfl rfl rfl rfl ?_) | refine oN ?_ | refine aS ?_ | refine aR ?_ | refine aK ?_ | refine aT ?_ | refine aC rfl ?_ | refine bF ?_ | refine bPt (by omega) ?_ | refine bPf (by omega) ?_); (try conv => whnf))
        (done)
    · rw [if_pos h2]
      generalize facErr q = z at *
      refine Sat_of_awp (fn := f20) cx_ok (by kernel_rfl) (by kernel_rfl) rfl (by kernel_rfl) (Nat.le_of_ble_eq_true rfl) ?_
      repeat ((first | refine oP rfl ?_ | refine rP rfl (fun _ z => z) ?_ | (refine kO 1 rfl ?_; refine rG (fun _ z => z) ?_) | (refine kO 2 rfl ?_; refine rG (fun _ z => z) ?_) | (refine kO 3 rfl ?_; first | refine rLdb rfl rfl rfl rfl rfl rfl rfl ?_ | refine rG (fun _ z => z) ?_) | (refine kO 7 rfl ?_; first | refine rG (fun _ z => ⟨_, within_p _ _ _, z⟩) ?_ | refine rG (fun _ z => ⟨_, g, z⟩) ?_) | refine oN ?_ | refine aS ?_ | refine aR ?_ | refine aK ?_ | refine aT ?_ | refine aC rfl ?_ | refine bPt (by omega) ?_ | refine bPf (by omega) ?_); (try conv => whnf))
      (rfl)
  · rw [if_neg h1]
    refine Sat_of_awp (fn := f20) cx_ok (by kernel_rfl) (by kernel_rfl) rfl (by kernel_rfl) (Nat.le_of_ble_eq_true rfl) ?_
    repeat ((first | refine oP rfl ?_ | refine rP rfl (fun _ z => z) ?_ | (refine kO 2 rfl ?_; refine rG (fun _ z => z) ?_) | (refine kO 3 rfl ?_; refine rLdb rfl rfl rfl rfl rfl rfl rfl ?_) | (refine kO 7 rfl ?_; refine rG (fun _ z => ⟨_, within_p _ _ _, z⟩) ?_) | refine oN ?_ | refine aS ?_ | refine aR ?_ | refine aT ?_ | refine aC rfl ?_ | refine bPt (by omega) ?_); (try conv => whnf))
    (done)
theorem copyRules_sat (e : Int) (q : Sp) (ch : List Sp) (hl : ch.length ≤ 4294967296) : Sat cx.P cx.gl 10 [Ru e q ch] (.one (Ru e q ch)) := by
  have hlen : (ch.map sp).length ≤ 4294967296 := by rw [List.length_map]; exact hl
  have hun : (SC.view ([] ++ ch.map sp)).uni 4 := by
    intro x hx
    rw [List.nil_append] at hx
    obtain ⟨s, _, rfl⟩ := List.mem_map.1 hx
    rfl
  refine Sat_of_awp (fn := f10) cx_ok (by kernel_rfl) (by kernel_rfl) rfl (by kernel_rfl) (Nat.le_of_ble_eq_true rfl) ?_
  repeat ((first | refine oP rfl ?_ | refine rP rfl (fun _ z => z) ?_ | (refine kO 3 rfl ?_; first | refine rLdb rfl rfl rfl rfl rfl rfl rfl ?_ | refine rG (fun _ z => z) ?_) | refine oN ?_ | refine aS ?_ | refine aR ?_); (try conv => whnf))
  refine rG (fun _ z => ⟨hun, lvN hlen, z⟩) ?_
  (conv => whnf)
  repeat ((first | refine oP rfl ?_ | refine rP rfl (fun _ z => z) ?_ | (refine kO 4 rfl ?_; refine rG (fun _ z => z) ?_) | refine oN ?_ | refine aT ?_ | refine dI (by kernel_rfl) ?_); (try conv => whnf))
  (rfl)
theorem copyRecord_sat (st : Int) (l : List Int) (hl : l.length ≤ 4294967296) : Sat cx.P cx.gl 8 [Rc st l] (.one (Rc st l)) := by
  refine Sat_of_awp (fn := f8) cx_ok (by kernel_rfl) (by kernel_rfl) rfl (by kernel_rfl) (Nat.le_of_ble_eq_true rfl) ?_
  repeat ((first | refine oP rfl ?_ | refine rP rfl (fun _ z => z) ?_ | (refine kO 3 rfl ?_; refine rLdb rfl rfl rfl rfl rfl rfl rfl ?_) | (refine kO 4 rfl ?_; refine rG (fun _ z => z) ?_) | (refine kO 7 rfl ?_; refine rG (fun _ z => ⟨_, copyInts_sat l hl, z⟩) ?_) | refine oN ?_ | refine aS ?_ | refine aR ?_ | refine aT ?_ | refine dI (by kernel_rfl) ?_); (try conv => whnf))
  (rfl)
theorem few8_sat (st : Int) (l : List Int) : Sat cx.P cx.gl 5 [Rc st l] (.one (Bo (decide (l.length ≤ 70)))) := by
  refine Sat_of_awp (fn := f5) cx_ok (by kernel_rfl) (by kernel_rfl) rfl (by kernel_rfl) (Nat.le_of_ble_eq_true rfl) ?_
  repeat ((first | refine oP rfl ?_ | refine rP rfl (fun _ z => z) ?_ | (refine kO 1 rfl ?_; refine rG (fun _ z => z) ?_) | (refine kO 3 rfl ?_; refine rLdb rfl rfl rfl rfl rfl rfl rfl ?_) | (refine kO 6 rfl ?_; refine rLen rfl rfl rfl rfl rfl rfl ?_) | refine oN ?_ | refine aS ?_ | refine aR ?_ | refine aT ?_); (try conv => whnf))
  exact res_bo (decide_eq_decide.2 (by omega))
theorem fewFactors_sat (e : Int) (q : Sp) (ch : List Sp) : Sat cx.P cx.gl 6 [Ru e q ch] (.one (Bo (decide (ch.length ≤ 6)))) := by
  refine Sat_of_awp (fn := f6) cx_ok (by kernel_rfl) (by kernel_rfl) rfl (by kernel_rfl) (Nat.le_of_ble_eq_true rfl) ?_
  repeat ((first | refine oP rfl ?_ | refine rP rfl (fun _ z => z) ?_ | (refine kO 1 rfl ?_; refine rG (fun _ z => z) ?_) | (refine kO 3 rfl ?_; refine rLdb rfl rfl rfl rfl rfl rfl rfl ?_) | (refine kO 6 rfl ?_; refine rLenv rfl rfl rfl rfl rfl rfl ?_) | refine oN ?_ | refine aS ?_ | refine aR ?_ | refine aT ?_); (try conv => whnf))
  exact res_bo (decide_eq_decide.2 (by rw [List.length_map]; omega))
end Go.Proofs.Tryz
