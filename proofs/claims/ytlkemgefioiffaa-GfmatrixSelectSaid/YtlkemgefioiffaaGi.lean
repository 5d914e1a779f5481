/- Inverses, walked. No condition. -/
import Derived.Test.YtlkemgefioiffaaGp
namespace Go.Proofs.Ytlkemgefioiffaa
open Go.RowKit
theorem ret_pair {a b : Value} {a' b' : Value} (h : a = a') (h' : b = b') : Ending.returned (.tuple #[a, b]) = .returned (.tuple #[a', b']) := by rw [h, h']
def errDivide : Int := 3
set_option maxHeartbeats 400000 in
theorem inv_zero (w : World) :
    Calls Try.prog 35 #[bv 0] w fun e w' => e = .returned (.tuple #[bv 0, iv 3]) ∧ w = w' := by
  go_enter Try.func35, Try.ntmps35
  go_wp2
  go_ret2
  exact ⟨rfl, rfl⟩
theorem G.beq_zero {a : G} (h : a ≠ 0) : ((a.val : Int) == 0) = false := by
  have : a.val ≠ 0 := fun e => h (G.eq_of e)
  rw [beq_eq_false_iff_ne]; omega
set_option maxHeartbeats 400000 in
theorem inv_any (a : G) (h : a ≠ 0) (w : World) :
    Calls Try.prog 35 #[bv a] w fun e w' => e = .returned (.tuple #[bv (ginv a), iv 0]) ∧ w = w' := by
  have hb := G.beq_zero h
  go_enter Try.func35, Try.ntmps35
  go_wp2_with (go_at_call 45; refine (power_any _ _ (by omega) (by omega) _).mono ?_; rintro e w' ⟨rfl, rfl⟩)
  go_ret2
  exact ⟨rfl, rfl⟩
end Go.Proofs.Ytlkemgefioiffaa
