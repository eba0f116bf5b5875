/- Parts of the proof, joined. -/
import Derived.Test.YtnamnocgjggnmaaDoorVa
import Derived.Test.YtnamnocgjggnmaaDoorM
namespace Go.Proofs.Tryd
open Go.Fw Go.IntWalk Go.Plain
set_option maxRecDepth 100000
set_option maxHeartbeats 8000000
theorem mod_sat (n b : Int) (_hn : inI n) (hb : 0 < b ∧ b ≤ 9223372036854775807) : Sat cx.P cx.gl 29 [I n, I b] (.one (I (n % b))) := by
  have h1 := Int.tmod_lt_of_pos n hb.1
  have h2 := Int.lt_tmod_of_pos n hb.1
  have e := mod_eq n hb.1
  rw [e]
  by_cases h0 : 0 ≤ n
  · have h3 : n.tmod b = n % b := Int.tmod_eq_emod_of_nonneg h0
    have h4 := Int.emod_nonneg n (show b ≠ 0 by omega)
    rw [if_neg (by omega), h3]
    refine Sat_of_awp (fn := f29) cx_ok (by kernel_rfl) (by kernel_rfl) rfl (by kernel_rfl) (Nat.le_of_ble_eq_true rfl) ?_
    repeat ((first | refine oP rfl ?_ | refine rP rfl (fun _ z => z) ?_ | (refine kO 1 rfl ?_; first | refine rRem rfl rfl rfl (by omega) ?_ | refine rG (fun _ z => z) ?_) | refine oN ?_ | refine aS ?_ | refine aR ?_ | refine aK ?_ | refine aT ?_ | refine aC rfl ?_ | refine bPf (by omega) ?_); (try conv => whnf))
    (done)
  · refine Sat_of_awp (fn := f29) cx_ok (by kernel_rfl) (by kernel_rfl) rfl (by kernel_rfl) (Nat.le_of_ble_eq_true rfl) ?_
    repeat ((first | refine oP rfl ?_ | refine rP rfl (fun _ z => z) ?_ | (refine kO 1 rfl ?_; first | refine rRem' rfl rfl rfl (by omega) ?_ | refine rG (fun _ z => z) ?_) | refine oN ?_ | refine aS ?_ | refine aR ?_ | refine aC rfl ?_); (try conv => whnf))
    ((refine brp (fun h => ?_) (fun h => ?_)) <;> (try conv => whnf))
    · repeat ((first | refine oP rfl ?_ | refine rP rfl (fun _ z => z) ?_ | (refine kO 1 rfl ?_; refine rAdd rfl rfl rfl (by omega) ?_) | refine oN ?_ | refine aS ?_ | refine aR ?_ | refine aT ?_); (try conv => whnf))
      rw [if_pos h]; (done)
    · repeat ((first | refine oP rfl ?_ | refine rP rfl (fun _ z => z) ?_ | refine oN ?_ | refine aS ?_ | refine aR ?_ | refine aK ?_ | refine aT ?_); (try conv => whnf))
      rw [if_neg h]; (done)
end Go.Proofs.Tryd
