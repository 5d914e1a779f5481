/- Powers, walked. No condition. -/
import Derived.Test.YtlkemgefioiffaaGa
namespace Go.Proofs.Ytlkemgefioiffaa
open Go.RowKit
theorem gpow_half (x : G) (k : Nat) : gpow x k = (if k % 2 = 1 then x else 1) * gpow (x * x) (k / 2) := by
  rw [gpow_sq]
  split
  · conv => lhs; rw [show k = 1 + 2 * (k / 2) from by omega, gpow_add, gpow_one]
  · rw [G.one_mul]; congr 1; omega
set_option maxHeartbeats 400000 in
theorem power_any (a : G) (n : Int) (h1 : 0 ≤ n) (h2 : n ≤ 9223372036854775807) (w : World) :
    Calls Try.prog 45 #[bv a, iv n] w fun e w' => e = .returned (bv (gpow a n.toNat)) ∧ w = w' := by
  go_enter Try.func45, Try.ntmps45
  go_wp2
  go_loop [0, 1, 5] (fun a1 e1 o1 => ∃ (x o : G) (k : Nat), k ≤ 9223372036854775807 ∧ o * gpow x k = gpow a n.toNat ∧ a1 = bv x ∧ e1 = iv k ∧ o1 = bv o) (fun _ e1 _ => (intOf e1).toNat)
  case atStart => exact ⟨a, 1, n.toNat, by omega, G.one_mul _, rfl, by go_num, rfl⟩
  case round =>
    obtain ⟨x, o, k, hk, hx, rfl, rfl, rfl⟩ := hrel
    have HX := Lib.hid hx
    clear hx
    by_cases h0 : k = 0
    · subst h0
      go_wp2
      go_ret
      have := HX.out
      rw [gpow_zero, G.mul_one] at this
      exact ⟨by rw [← this]; rfl, rfl⟩
    · have e2 := i64_low k (by omega)
      by_cases hp : k % 2 = 1
      · have e1 : (bits BinOp.and IntKind.i64 (k : Int) 1 == 1) = true := by rw [e2, hp]; rfl
        clear e2
        go_wp2_with (go_at_call 44; refine (mul_any _ _ _).mono ?_; rintro e w' ⟨rfl, rfl⟩)
        go_round
        case rel => exact ⟨x * x, o * x, k / 2, by omega, by rw [← HX.out, gpow_half x k, if_pos hp, G.mul_assoc], rfl, by go_num, rfl⟩
        case measure => simp [intOf]; omega
      · have e1 : (bits BinOp.and IntKind.i64 (k : Int) 1 == 1) = false := by rw [e2, show k % 2 = 0 from by omega]; rfl
        clear e2
        go_wp2_with (go_at_call 44; refine (mul_any _ _ _).mono ?_; rintro e w' ⟨rfl, rfl⟩)
        go_round
        case rel => exact ⟨x * x, o, k / 2, by omega, by rw [← HX.out, gpow_half x k, if_neg hp, G.one_mul], rfl, by go_num, rfl⟩
        case measure => simp [intOf]; omega
end Go.Proofs.Ytlkemgefioiffaa
