/- Exponents and powers of 2, walked. No condition. -/
import Derived.Test.YtkifedekpmgfpaaGp
namespace Go.Proofs.Ytkifedekpmgfpaa
open Go.RowKit
theorem reduce_eq (n : Int) : (n.tmod 255 + 255) % 255 = n % 255 := by
  rw [Int.tmod_eq_emod]
  split <;> omega
set_option maxHeartbeats 400000 in
theorem reduce_any (n : Int) (_h1 : -9223372036854775808 ≤ n) (_h2 : n ≤ 9223372036854775807) (w : World) :
    Calls Try.prog 32 #[iv n] w fun e w' => e = .returned (iv (n % 255)) ∧ w = w' := by
  have h3 : -255 < n.tmod 255 := Int.lt_tmod_of_pos _ (by omega)
  have h4 : n.tmod 255 < 255 := Int.tmod_lt_of_pos _ (by omega)
  go_enter Try.func32, Try.ntmps32
  go_wp2
  go_ret
  exact ⟨congrArg (fun z : Int => Ending.returned (.int .i64 z)) (reduce_eq n), rfl⟩
set_option maxHeartbeats 400000 in
theorem exp_any (n : Int) (h1 : -9223372036854775808 ≤ n) (h2 : n ≤ 9223372036854775807) (w : World) :
    Calls Try.prog 23 #[iv n] w fun e w' => e = .returned (bv (gpow 2 (n % 255).toNat)) ∧ w = w' := by
  go_enter Try.func23, Try.ntmps23
  go_wp2_with (first | (go_at_call 32; refine (reduce_any _ h1 h2 _).mono ?_; rintro e w' ⟨rfl, rfl⟩) | (go_at_call 31; refine (power_any 2 _ (by omega) (by omega) _).mono ?_; rintro e w' ⟨rfl, rfl⟩))
  go_ret
  exact ⟨rfl, rfl⟩
end Go.Proofs.Ytkifedekpmgfpaa
