/- The reference's inverses, walked. No condition. -/
import Derived.Test.YtlkemgefioiffaaGc
namespace Go.Proofs.Ytlkemgefioiffaa
open Go.RowKit
/-- The element with the number k. -/
def gOf (k : Nat) : G := ⟨k % 256, Nat.mod_lt _ (by omega)⟩
theorem gOf_val {k : Nat} (h : k < 256) : (gOf k).val = k := Nat.mod_eq_of_lt h
theorem gOf_of (a : G) : gOf a.val = a := G.eq_of (gOf_val a.lt)
/-- Whether an element has an inverse. -/
def gnz (a : G) : Bool := decide (a ≠ 0)
set_option maxRecDepth 20000 in
set_option maxHeartbeats 400000 in
theorem rinv_any (a : G) (w : World) :
    Calls Try.prog 40 #[bv a] w fun e w' => e = .returned (.tuple #[bv (ginv a), .bool (gnz a)]) ∧ w = w' := by
  go_enter Try.func40, Try.ntmps40
  go_wp2
  go_loop [4] (fun k1 => ∃ k : Nat, 1 ≤ k ∧ k ≤ 256 ∧ (∀ j, 1 ≤ j → j < k → a * gOf j ≠ 1) ∧ k1 = iv k) (fun k1 => (256 - intOf k1).toNat)
  case atStart => exact ⟨1, by omega, by omega, fun j h1 h2 => absurd h1 (by omega), rfl⟩
  case round =>
    obtain ⟨k, hk1, hk2, hno, rfl⟩ := hrel
    have HNO := Lib.hid hno
    clear hno
    by_cases hlt : k < 256
    · obtain ⟨g, rfl⟩ : ∃ g : G, g.val = k := ⟨gOf k, gOf_val hlt⟩
      by_cases hm : a * g = 1
      · have e1 : (((a * g).val : Int) == 1) = true := by rw [hm]; rfl
        have hfin : Ending.returned (.tuple #[.int .u8 (g.val : Int), .bool true]) = .returned (.tuple #[bv (ginv a), .bool (gnz a)]) := by
          have ha : a ≠ 0 := fun e => by rw [e, G.zero_mul] at hm; exact one_ne_zero hm.symm
          rw [← ginv_unique hm, gnz, decide_eq_true ha]
        have HF := Lib.hid hfin
        clear hfin hm
        go_wp2_with (go_at_call 42; refine (rmul_any a g _).mono ?_; rintro e w' ⟨rfl, rfl⟩)
        go_ret2
        exact ⟨HF.out, rfl⟩
      · have e1 : (((a * g).val : Int) == 1) = false := by
          rw [beq_eq_false_iff_ne]
          exact fun e => hm (G.eq_of (by rw [G.val_one]; omega))
        have HM := Lib.hid hm
        clear hm
        go_wp2_with (go_at_call 42; refine (rmul_any a g _).mono ?_; rintro e w' ⟨rfl, rfl⟩)
        go_round
        case rel =>
          refine ⟨g.val + 1, by omega, by omega, fun j h1 h2 => ?_, by go_num⟩
          by_cases hj : j = g.val
          · rw [hj, gOf_of]; exact HM.out
          · exact HNO.out j h1 (by omega)
        case measure => simp [intOf]; omega
    · have hz : a = 0 := by
        by_cases ha : a = 0
        · exact ha
        · have hgi := ginv_ne ha
          have hv : (ginv a).val ≠ 0 := fun e => hgi (G.eq_of e)
          have := HNO.out (ginv a).val (by omega) (by have := (ginv a).lt; omega)
          rw [gOf_of, mul_ginv ha] at this
          exact absurd rfl this
      have HZ := Lib.hid hz
      clear hz
      go_wp2_with (fail)
      go_ret2
      refine ⟨?_, rfl⟩
      rw [HZ.out, ginv_zero]
      rfl
end Go.Proofs.Ytlkemgefioiffaa
