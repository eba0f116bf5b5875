/- Parts of the proof, joined. -/
import Derived.Test.YtipakjlkkefljaaGreatDoorWe
import Derived.Test.YtipakjlkkefljaaGreatDoorP
import Derived.Test.YtipakjlkkefljaaGreatDoorFe
namespace Go.Proofs.Tryz
open Go.Fw Go.IntWalk Go.Plain
set_option maxRecDepth 100000
set_option maxHeartbeats 8000000
theorem numsR_eq (o : Option (List Int)) : numsR o = [L (nl o), Bo (nb o)] := by cases o <;> rfl
abbrev PW (r : (List Int × List Int) × Int) : List SV := [W2 r.1.1 r.1.2, I r.2]
theorem parseWindow_sat (s : List UInt8) (hl : s.length ≤ 10000) : Sat cx.P cx.gl 8 [SS s] (.tup (PW (parseW (spl 32 s)))) := by
  obtain ⟨h1, h2⟩ := cutS_spl s 32
  obtain ⟨h3, h4⟩ := spl_len 32 s
  have c1 := split_sat s 32 (by omega) h2
  rw [h1, show (32 : UInt8).toNat = 32 from rfl] at c1
  have c2 := index_sat (spl 32 s) [59] (by omega)
  unfold parseW
  generalize spl 32 s = ws at *
  by_cases hm : [59] ∈ ws
  · rw [if_pos hm]
    have hi : idxI ws [59] = (ws.idxOf [59] : Nat) := by unfold idxI; rw [if_pos hm]
    have hk : ws.idxOf [59] < ws.length := List.idxOf_lt_length_of_mem hm
    rw [hi] at c2
    generalize ws.idxOf [59] = k at *
    have c3 := numbers_sat (ws.take k) (by simp; omega) (fun w hw => by have := h4 w (List.mem_of_mem_take hw); omega)
    have c4 := numbers_sat (ws.drop (k + 1)) (by simp; omega) (fun w hw => by have := h4 w (List.mem_of_mem_drop hw); omega)
    have l1 := nl_len (ws := ws.take k)
    have l2 := nl_len (ws := ws.drop (k + 1))
    have l3 : (ws.take k).length ≤ 10001 := by simp; omega
    have l4 : (ws.drop (k + 1)).length ≤ 10001 := by simp; omega
    rw [numsR_eq] at c3 c4
    unfold bothP
    generalize numsN (ws.take k) = p at *
    generalize numsN (ws.drop (k + 1)) = q at *
    generalize nl p = a at *
    generalize nl q = b at *
    generalize nb p = u at *
    generalize nb q = v at *
    have c6 := checkWindow_sat a b (by unfold maxLen; omega) (by unfold maxLen; omega)
    generalize windowErr a b = e at *
    refine Sat_of_awp (fn := f8) cx_ok (by kernel_rfl) (by kernel_rfl) rfl (by kernel_rfl) (Nat.le_of_ble_eq_true rfl) ?_
    refine aS ?_; (refine aR ?_; conv => whnf); repeat ((first | refine oP rfl ?_ | refine rP rfl (fun _ z => z) ?_ | refine oN ?_); (try conv => whnf))
    refine awp_seqw ?_; (refine aR ?_; conv => whnf); repeat ((first | refine oP rfl ?_ | refine rP rfl (fun _ z => z) ?_ | (refine kO 7 rfl ?_; refine rG (fun _ z => ⟨_, c1, z⟩) ?_) | refine oN ?_); (try conv => whnf))
    refine ⟨_, freeze_sub 3 rfl, ?_⟩
    have f7 : ∀ x : Int, fs [7, x] = 7 := fun x => rfl
    have f0 : fs [0, e] = e := by
      by_cases he : e = 0
      · rw [he]; rfl
      · show (if (0 : Int) ≠ 0 then 0 else if e ≠ 0 then e else 0) = e
        rw [if_neg (by decide), if_pos he]
    have g7 := fun x => f7 x ▸ first_fs [7, x] (Nat.le_of_ble_eq_true rfl)
    have g0 := f0 ▸ first_fs [0, e] (Nat.le_of_ble_eq_true rfl)
    have u0 : Sat cx.P cx.gl 28 [Bo true, I 7] (.one (I 0)) := unless_sat true 7
    have u7 : Sat cx.P cx.gl 28 [Bo false, I 7] (.one (I 7)) := unless_sat false 7
    cases u <;> cases v
    · rw [if_neg (by decide)]
      repeat' ((first | refine oP rfl ?_ | refine rP rfl (fun _ z => z) ?_ | (refine kO 1 rfl ?_; first | refine rAdd rfl rfl rfl (by omega) ?_ | refine rG (fun _ z => z) ?_) | (refine kO 3 rfl ?_; refine rG (fun _ z => z) ?_) | (refine kO 4 rfl ?_; refine rG (fun _ z => z) ?_) | (refine kO 7 rfl ?_; first | refine rG (fun _ z => ⟨_, c2, z⟩) ?_ | refine rG (fun _ z => ⟨_, c3, z⟩) ?_ | refine rG (fun _ z => ⟨_, c4, z⟩) ?_ | refine rG (fun _ z => ⟨_, c6, z⟩) ?_ | refine rG (fun _ z => ⟨_, u7, z⟩) ?_ | refine rG (fun _ z => ⟨_, g7 _, z⟩) ?_) | (refine kO 8 rfl ?_; first | refine rVOlH rfl rfl rfl rfl rfl rfl rfl rfl (by omega) ?_ | refine rVOlL rfl rfl rfl rfl rfl rfl rfl rfl (by omega) ?_) | refine oN ?_ | refine aS ?_ | refine aR ?_ | refine aK ?_ | refine aT ?_ | refine aC rfl ?_ | refine bT ?_ | refine bF ?_ | refine oZ rfl rfl rfl ?_ | refine dI (by kernel_rfl) ?_) <;> (try conv => whnf))
      all_goals (exact rfl)
    · rw [if_neg (by decide)]
      repeat' ((first | refine oP rfl ?_ | refine rP rfl (fun _ z => z) ?_ | (refine kO 1 rfl ?_; first | refine rAdd rfl rfl rfl (by omega) ?_ | refine rG (fun _ z => z) ?_) | (refine kO 3 rfl ?_; refine rG (fun _ z => z) ?_) | (refine kO 4 rfl ?_; refine rG (fun _ z => z) ?_) | (refine kO 7 rfl ?_; first | refine rG (fun _ z => ⟨_, c2, z⟩) ?_ | refine rG (fun _ z => ⟨_, c3, z⟩) ?_ | refine rG (fun _ z => ⟨_, c4, z⟩) ?_ | refine rG (fun _ z => ⟨_, c6, z⟩) ?_ | refine rG (fun _ z => ⟨_, u7, z⟩) ?_ | refine rG (fun _ z => ⟨_, g7 _, z⟩) ?_) | (refine kO 8 rfl ?_; first | refine rVOlH rfl rfl rfl rfl rfl rfl rfl rfl (by omega) ?_ | refine rVOlL rfl rfl rfl rfl rfl rfl rfl rfl (by omega) ?_) | refine oN ?_ | refine aS ?_ | refine aR ?_ | refine aK ?_ | refine aT ?_ | refine aC rfl ?_ | refine bT ?_ | refine bF ?_ | refine oZ rfl rfl rfl ?_ | refine dI (by kernel_rfl) ?_) <;> (try conv => whnf))
      all_goals (exact rfl)
    · rw [if_neg (by decide)]
      repeat' ((first | refine oP rfl ?_ | refine rP rfl (fun _ z => z) ?_ | (refine kO 1 rfl ?_; first | refine rAdd rfl rfl rfl (by omega) ?_ | refine rG (fun _ z => z) ?_) | (refine kO 3 rfl ?_; refine rG (fun _ z => z) ?_) | (refine kO 4 rfl ?_; refine rG (fun _ z => z) ?_) | (refine kO 7 rfl ?_; first | refine rG (fun _ z => ⟨_, c2, z⟩) ?_ | refine rG (fun _ z => ⟨_, c3, z⟩) ?_ | refine rG (fun _ z => ⟨_, c4, z⟩) ?_ | refine rG (fun _ z => ⟨_, c6, z⟩) ?_ | refine rG (fun _ z => ⟨_, u7, z⟩) ?_ | refine rG (fun _ z => ⟨_, g7 _, z⟩) ?_) | (refine kO 8 rfl ?_; first | refine rVOlH rfl rfl rfl rfl rfl rfl rfl rfl (by omega) ?_ | refine rVOlL rfl rfl rfl rfl rfl rfl rfl rfl (by omega) ?_) | refine oN ?_ | refine aS ?_ | refine aR ?_ | refine aK ?_ | refine aT ?_ | refine aC rfl ?_ | refine bT ?_ | refine bF ?_ | refine oY rfl rfl rfl ?_ | refine dI (by kernel_rfl) ?_) <;> (try conv => whnf))
      all_goals (exact rfl)
    · rw [if_pos ⟨rfl, rfl⟩]
      by_cases he : e = 0
      · rw [if_pos he]
        repeat' ((first | refine oP rfl ?_ | refine rP rfl (fun _ z => z) ?_ | (refine kO 1 rfl ?_; first | refine rAdd rfl rfl rfl (by omega) ?_ | refine rG (fun _ z => z) ?_) | (refine kO 3 rfl ?_; refine rG (fun _ z => z) ?_) | (refine kO 4 rfl ?_; refine rG (fun _ z => z) ?_) | (refine kO 7 rfl ?_; first | refine rG (fun _ z => ⟨_, c2, z⟩) ?_ | refine rG (fun _ z => ⟨_, c3, z⟩) ?_ | refine rG (fun _ z => ⟨_, c4, z⟩) ?_ | refine rG (fun _ z => ⟨_, c6, z⟩) ?_ | refine rG (fun _ z => ⟨_, u0, z⟩) ?_ | refine rG (fun _ z => ⟨_, g0, z⟩) ?_) | (refine kO 8 rfl ?_; first | refine rVOlH rfl rfl rfl rfl rfl rfl rfl rfl (by omega) ?_ | refine rVOlL rfl rfl rfl rfl rfl rfl rfl rfl (by omega) ?_) | refine oN ?_ | refine aS ?_ | refine aR ?_ | refine aK ?_ | refine aT ?_ | refine aC rfl ?_ | refine bF ?_ | refine bPf (by omega) ?_ | refine oY rfl rfl rfl ?_ | refine dI (by kernel_rfl) ?_) <;> (try conv => whnf))
        all_goals (exact rfl)
      · rw [if_neg he]
        repeat' ((first | refine oP rfl ?_ | refine rP rfl (fun _ z => z) ?_ | (refine kO 1 rfl ?_; first | refine rAdd rfl rfl rfl (by omega) ?_ | refine rG (fun _ z => z) ?_) | (refine kO 3 rfl ?_; refine rG (fun _ z => z) ?_) | (refine kO 4 rfl ?_; refine rG (fun _ z => z) ?_) | (refine kO 7 rfl ?_; first | refine rG (fun _ z => ⟨_, c2, z⟩) ?_ | refine rG (fun _ z => ⟨_, c3, z⟩) ?_ | refine rG (fun _ z => ⟨_, c4, z⟩) ?_ | refine rG (fun _ z => ⟨_, c6, z⟩) ?_ | refine rG (fun _ z => ⟨_, u0, z⟩) ?_ | refine rG (fun _ z => ⟨_, g0, z⟩) ?_) | (refine kO 8 rfl ?_; first | refine rVOlH rfl rfl rfl rfl rfl rfl rfl rfl (by omega) ?_ | refine rVOlL rfl rfl rfl rfl rfl rfl rfl rfl (by omega) ?_) | refine oN ?_ | refine aS ?_ | refine aR ?_ | refine aK ?_ | refine aT ?_ | refine aC rfl ?_ | refine bF ?_ | refine bPt (by omega) ?_ | refine oY rfl rfl rfl ?_ | refine dI (by kernel_rfl) ?_) <;> (try conv => whnf))
        all_goals (exact rfl)
  · rw [if_neg hm]
    rw [idxI_no hm] at c2
    refine Sat_of_awp (fn := f8) cx_ok (by kernel_rfl) (by kernel_rfl) rfl (by kernel_rfl) (Nat.le_of_ble_eq_true rfl) ?_
    refine aS ?_; (refine aR ?_; conv => whnf); repeat ((first | refine oP rfl ?_ | refine rP rfl (fun _ z => z) ?_ | refine oN ?_); (try conv => whnf))
    refine awp_seqw ?_; (refine aR ?_; conv => whnf); repeat ((first | refine oP rfl ?_ | refine rP rfl (fun _ z => z) ?_ | (refine kO 7 rfl ?_; refine rG (fun _ z => ⟨_, c1, z⟩) ?_) | refine oN ?_); (try conv => whnf))
    refine ⟨_, freeze_sub 3 rfl, ?_⟩
    repeat' ((first | refine oP rfl ?_ | refine rP rfl (fun _ z => z) ?_ | (refine kO 1 rfl ?_; refine rG (fun _ z => z) ?_) | (refine kO 4 rfl ?_; refine rG (fun _ z => z) ?_) | (refine kO 7 rfl ?_; refine rG (fun _ z => ⟨_, c2, z⟩) ?_) | refine oN ?_ | refine aS ?_ | refine aR ?_ | refine aT ?_ | refine aC rfl ?_ | refine bT ?_) <;> (try conv => whnf))
    all_goals exact rfl
end Go.Proofs.Tryz
