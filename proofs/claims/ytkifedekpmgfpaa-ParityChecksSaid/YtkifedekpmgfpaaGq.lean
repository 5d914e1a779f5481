/- The reference's powers, walked. No condition. -/
import Derived.Test.YtkifedekpmgfpaaGc
namespace Go.Proofs.Ytkifedekpmgfpaa
open Go.RowKit
set_option maxHeartbeats 400000 in
theorem rpower_any (a : G) (n : Int) (h1 : n ≤ 9223372036854775807) (w : World) :
    Calls Try.prog 13 #[bv a, iv n] w fun e w' => e = .returned (bv (gpow a n.toNat)) ∧ w = w' := by
  go_enter Try.func13, Try.ntmps13
  go_wp2
  go_loop [5, 6] (fun o1 k1 => ∃ k : Nat, (k = 0 ∨ (k : Int) ≤ n) ∧ o1 = bv (gpow a k) ∧ k1 = iv k) (fun _ k1 => (n - intOf k1).toNat)
  case atStart => exact ⟨0, .inl rfl, rfl, rfl⟩
  case round =>
    obtain ⟨k, hk, rfl, rfl⟩ := hrel
    by_cases hlt : (k : Int) < n
    · go_wp2_with (go_at_call 24; refine (rmul_any _ _ _).mono ?_; rintro e w' ⟨rfl, rfl⟩)
      go_round
      case rel => exact ⟨k + 1, .inr (by omega), rfl, by go_num⟩
      case measure => simp [intOf]; omega
    · have hn : Hid (n.toNat = k) := show _ = _ by omega
      go_wp2_with (fail)
      go_ret
      exact ⟨by rw [hn.out]; rfl, rfl⟩
end Go.Proofs.Ytkifedekpmgfpaa
