/- The reference's product, walked. No condition. -/
import Derived.Test.YtlkemgefioiffaaGa
namespace Go.Proofs.Ytlkemgefioiffaa
open Go.RowKit
theorem pow_lt {k m : Nat} (h : k ≤ m) : 2 ^ k ≤ 2 ^ m := Nat.pow_le_pow_right (by omega) h
theorem u8_bit (b k : Nat) (h : b < 256) : bits BinOp.and IntKind.u8 ((b : Int) / 2 ^ k) 1 = ((b / 2 ^ k % 2 : Nat) : Int) := by
  have e : (b : Int) / 2 ^ k = ((b / 2 ^ k : Nat) : Int) := by rw [Int.natCast_ediv, Int.natCast_pow]; rfl
  rw [e]
  exact u8_low _ (Nat.lt_of_le_of_lt (Nat.div_le_self _ _) h)
theorem i64_bit (b k : Nat) (h : b < 9223372036854775808) : bits BinOp.and IntKind.i64 ((b : Int) / 2 ^ k) 1 = ((b / 2 ^ k % 2 : Nat) : Int) := by
  have e : (b : Int) / 2 ^ k = ((b / 2 ^ k : Nat) : Int) := by rw [Int.natCast_ediv, Int.natCast_pow]; rfl
  rw [e]
  exact i64_low _ (Nat.lt_of_le_of_lt (Nat.div_le_self _ _) h)
theorem wrap64_nat (n : Nat) (h : n < 9223372036854775808) : wrap64 (n : Int) = (n : Int) := IntWalk.wrap64_in _ ⟨by omega, by omega⟩
theorem shift_lt {a k : Nat} (ha : a < 256) (hk : k < 8) : a * 2 ^ k < 32768 := by
  have h1 : 2 ^ k ≤ 2 ^ 7 := pow_lt (by omega)
  have h2 : a * 2 ^ k ≤ 255 * 2 ^ 7 := Nat.mul_le_mul (by omega) h1
  omega
theorem shift_lt' {k : Nat} (hk : k < 7) : 285 * 2 ^ k < 32768 := by
  have h1 : 2 ^ k ≤ 2 ^ 6 := pow_lt (by omega)
  have h2 : 285 * 2 ^ k ≤ 285 * 2 ^ 6 := Nat.mul_le_mul (by omega) h1
  omega
theorem xor_lt15 {a b : Nat} (ha : a < 32768) (hb : b < 32768) : a ^^^ b < 32768 := Nat.xor_lt_two_pow (n := 15) ha hb
set_option maxHeartbeats 1000000 in
theorem rmul_any (a b : G) (w : World) :
    Calls Try.prog 42 #[bv a, bv b] w fun e w' => e = .returned (bv (a * b)) ∧ w = w' := by
  have ha := a.lt
  have hb := b.lt
  go_enter Try.func42, Try.ntmps42
  go_wp2
  go_loop [5, 6] (fun p1 k1 => ∃ p k : Nat, k ≤ 8 ∧ p < 32768 ∧ p = rprod a.val b.val k ∧ p1 = iv p ∧ k1 = iv k) (fun _ k1 => 8 - (intOf k1).toNat)
  case atStart => exact ⟨0, 0, by omega, by omega, rfl, rfl, rfl⟩
  case round =>
    obtain ⟨p, k, hk, hp, hpe, rfl, rfl⟩ := hrel
    have HP := Lib.hid hpe
    clear hpe
    by_cases h8 : k < 8
    · have e2 := u8_bit b.val k hb
      have hs := shift_lt ha h8
      have ew : wrap64 ((a.val : Int) * 2 ^ k) = ((a.val * 2 ^ k : Nat) : Int) := by
        rw [show ((a.val : Int) * 2 ^ k) = ((a.val * 2 ^ k : Nat) : Int) from by rw [Int.natCast_mul, Int.natCast_pow]; rfl]
        exact wrap64_nat _ (by omega)
      by_cases hp1 : b.val / 2 ^ k % 2 = 1
      · have e1 : (bits BinOp.and IntKind.u8 ((b.val : Int) / 2 ^ k) 1 == 1) = true := by rw [e2, hp1]; rfl
        have ex := i64_xor_nat p (a.val * 2 ^ k) (by omega) (by omega)
        rw [← ew] at ex
        have EX := Lib.hid ex
        have H1 := Lib.hid hp1
        clear e2 ew ex hp1
        go_wp2
        go_round
        case rel => exact ⟨p ^^^ (a.val * 2 ^ k), k + 1, by omega, xor_lt15 hp hs, by rw [rprod, ← HP.out, H1.out, Nat.one_mul], by rw [EX.out], by go_num⟩
        case measure => simp [intOf]; omega
      · have e1 : (bits BinOp.and IntKind.u8 ((b.val : Int) / 2 ^ k) 1 == 1) = false := by rw [e2, show b.val / 2 ^ k % 2 = 0 from by omega]; rfl
        have H1 := Lib.hid (show b.val / 2 ^ k % 2 = 0 from by omega)
        clear e2 ew hp1
        go_wp2
        go_round
        case rel => exact ⟨p, k + 1, by omega, hp, by rw [rprod, ← HP.out, H1.out, Nat.zero_mul, Nat.xor_zero], rfl, by go_num⟩
        case measure => simp [intOf]; omega
    · obtain rfl : k = 8 := by omega
      have hfin : rdown 7 p = gmul a.val b.val := by rw [HP.out, rmul_eq ha hb]
      have HF := Lib.hid hfin
      clear hfin HP
      go_wp2
      go_loop [5, 7] (fun p1 k1 => ∃ p j : Nat, j ≤ 7 ∧ p < 32768 ∧ rdown j p = gmul a.val b.val ∧ p1 = iv p ∧ k1 = iv ((j:Int) + 7)) (fun _ k1 => (intOf k1).toNat)
      case atStart => exact ⟨p, 7, by omega, hp, HF.out, rfl, rfl⟩
      case round =>
        clear HF
        obtain ⟨q, j, hj, hq, hqe, rfl, rfl⟩ := hrel
        have HQ := Lib.hid hqe
        clear hqe
        by_cases h9 : 0 < j
        · obtain ⟨i, rfl⟩ : ∃ i, j = i + 1 := ⟨j - 1, by omega⟩
          have HS : Hid (rdown i (q ^^^ (q / 2 ^ (i + 8) % 2 * (285 * 2 ^ i))) = gmul a.val b.val) := HQ.out
          have e2 := i64_bit q (i + 8) (by omega)
          have hs := shift_lt' (k := i) (by omega)
          have ew : wrap64 (285 * 2 ^ i) = ((285 * 2 ^ i : Nat) : Int) := by
            rw [show ((285 : Int) * 2 ^ i) = ((285 * 2 ^ i : Nat) : Int) from by rw [Int.natCast_mul, Int.natCast_pow]; rfl]
            exact wrap64_nat _ (by omega)
          by_cases hp1 : q / 2 ^ (i + 8) % 2 = 1
          · have e1 : (bits BinOp.and IntKind.i64 ((q : Int) / 2 ^ (i + 8)) 1 == 1) = true := by rw [e2, hp1]; rfl
            have ex := i64_xor_nat q (285 * 2 ^ i) (by omega) (by omega)
            rw [← ew] at ex
            have EX := Lib.hid ex
            have H1 := Lib.hid hp1
            clear e2 ew ex hp1 HQ
            go_wp2
            go_round
            case rel => exact ⟨q ^^^ (285 * 2 ^ i), i, by omega, xor_lt15 hq hs, by rw [← HS.out, H1.out, Nat.one_mul], by rw [EX.out], by go_num⟩
            case measure => simp [intOf]; omega
          · have e1 : (bits BinOp.and IntKind.i64 ((q : Int) / 2 ^ (i + 8)) 1 == 1) = false := by rw [e2, show q / 2 ^ (i + 8) % 2 = 0 from by omega]; rfl
            have H1 := Lib.hid (show q / 2 ^ (i + 8) % 2 = 0 from by omega)
            clear e2 ew hp1 HQ
            go_wp2
            go_round
            case rel => exact ⟨q, i, by omega, hq, by rw [← HS.out, H1.out, Nat.zero_mul, Nat.xor_zero], rfl, by go_num⟩
            case measure => simp [intOf]; omega
        · obtain rfl : j = 0 := by omega
          have hlt : q < 256 := by have := HQ.out; rw [rdown] at this; rw [this]; exact gmul_lt ha
          have H2 : Hid (q = gmul a.val b.val) := HQ.out
          clear HQ
          go_wp2
          go_ret
          exact ⟨congrArg (fun z : Nat => Ending.returned (.int .u8 (z : Int))) H2.out, rfl⟩
end Go.Proofs.Ytlkemgefioiffaa
