/- The walks of the field's functions, of the program and of the reference, as far as they touch no memory: each returns what plain Lean reckons. No condition. -/
import Derived.Test.YtpbfkdfhfgeidaaGfPlain
import Derived.Test.YtpbfkdfhfgeidaaProg
import Derived.WalkKit
import Derived.WalkSpells
import Derived.WalkLawsBesides
import Derived.Lib.Hide
namespace Go.Proofs.Ytpbfkdfhfgeidaa
open Go.RowKit

abbrev bv (x : G) : Value := .int .u8 (x.val : Int)
abbrev iv (x : Int) : Value := .int .i64 x
theorem mulLoop_zero : ∀ (f x o : Nat), mulLoop f 0 x o = o
  | 0, _, _ => rfl
  | f + 1, x, o => by
    have := mulLoop_zero f (xt x) o
    simpa [mulLoop] using this
theorem u8_low (b : Nat) (h : b < 256) : bits BinOp.and IntKind.u8 (b : Int) 1 = ((b % 2 : Nat) : Int) := by
  rw [show (1 : Int) = ((1 : Nat) : Int) from rfl, u8_and_nat b 1 h (by omega), nat_mask1]
theorem ofInt_i64 (a : Nat) (ha : a < 9223372036854775808) : (BitVec.ofInt 64 (a : Int)).toNat = a := by
  rw [BitVec.ofInt_natCast, BitVec.toNat_ofNat]; exact Nat.mod_eq_of_lt (by omega)
theorem i64_and_nat (a b : Nat) (ha : a < 9223372036854775808) (hb : b < 9223372036854775808) : bits .and .i64 (a : Int) (b : Int) = ((a &&& b : Nat) : Int) := by
  have hx : a &&& b < 2 ^ 63 := Nat.and_lt_two_pow _ (by omega)
  show IntKind.i64.wrap ((BitVec.ofInt 64 (a : Int) &&& BitVec.ofInt 64 (b : Int)).toNat : Int) = _
  rw [BitVec.toNat_and, ofInt_i64 a ha, ofInt_i64 b hb, IntKind.wrap_i64]
  omega
theorem i64_xor_nat (a b : Nat) (ha : a < 9223372036854775808) (hb : b < 9223372036854775808) : bits .xor .i64 (a : Int) (b : Int) = ((a ^^^ b : Nat) : Int) := by
  have hx : a ^^^ b < 2 ^ 63 := Nat.xor_lt_two_pow (by omega) (by omega)
  show IntKind.i64.wrap ((BitVec.ofInt 64 (a : Int) ^^^ BitVec.ofInt 64 (b : Int)).toNat : Int) = _
  rw [BitVec.toNat_xor, ofInt_i64 a ha, ofInt_i64 b hb, IntKind.wrap_i64]
  omega
theorem i64_low (b : Nat) (h : b < 9223372036854775808) : bits BinOp.and IntKind.i64 (b : Int) 1 = ((b % 2 : Nat) : Int) := by
  rw [show (1 : Int) = ((1 : Nat) : Int) from rfl, i64_and_nat b 1 h (by omega), nat_mask1]
theorem G.add_val (a b : G) : bits BinOp.xor IntKind.u8 (a.val : Int) (b.val : Int) = (((a + b).val : Nat) : Int) := u8_xor_nat _ _ a.lt b.lt

set_option maxHeartbeats 400000 in
theorem mul_any (a b : G) (w : World) :
    Calls Try.prog 19 #[bv a, bv b] w fun e w' => e = .returned (bv (a * b)) ∧ w = w' := by
  have ha := a.lt
  have hb := b.lt
  go_enter Try.func19, Try.ntmps19
  go_wp2
  go_loop [1, 5, 6] (fun b1 x1 o1 => ∃ f b' x o : Nat, b' < 2 ^ f ∧ b' < 256 ∧ x < 256 ∧ o < 256 ∧ mulLoop f b' x o = gmul a.val b.val ∧ b1 = .int .u8 b' ∧ x1 = .int .i64 x ∧ o1 = .int .i64 o) (fun b1 _ _ => (intOf b1).toNat)
  case atStart => exact ⟨8, b.val, a.val, 0, hb, hb, ha, by omega, rfl, rfl, rfl, rfl⟩
  case round =>
    obtain ⟨f, b', x, o, h1, h2, h3, h4, h5, rfl, rfl, rfl⟩ := hrel
    have H5 := Lib.hid h5
    clear h5
    by_cases h0 : b' = 0
    · subst h0
      go_wp2
      go_ret
      refine ⟨?_, rfl⟩
      have := H5.out
      rw [mulLoop_zero] at this
      simp [bv, G.val_mul, this]
    · obtain ⟨f', rfl⟩ : ∃ f', f = f' + 1 := by
        cases f with
        | zero => simp at h1; omega
        | succ f' => exact ⟨f', rfl⟩
      have h6 : b' / 2 < 2 ^ f' := by rw [Nat.pow_succ] at h1; omega
      have hxt := xt_lt h3
      have hstep : mulLoop f' (b' / 2) (xt x) (o ^^^ (b' % 2 * x)) = gmul a.val b.val := H5.out
      have HS := Lib.hid hstep
      clear h1 hstep H5
      have e2 := u8_low b' h2
      by_cases hp : b' % 2 = 1 <;> by_cases hx : 255 < x * 2
      all_goals
        first
          | (have e1 : (bits BinOp.and IntKind.u8 (b' : Int) 1 == 1) = true := by rw [e2, hp]; rfl)
          | (have e1 : (bits BinOp.and IntKind.u8 (b' : Int) 1 == 1) = false := by rw [e2, show b' % 2 = 0 from by omega]; rfl)
        clear e2
        go_wp2
        go_round
        case rel =>
          have X := HS.out
          refine ⟨f', b' / 2, xt x, _, h6, by omega, hxt, ?_, X, by go_num, ?_, ?_⟩
          · exact xor_lt h4 (bit_lt _ h3)
          · unfold xt
            first
              | (rw [show x / 128 % 2 = 1 from by omega, Nat.one_mul]; rw [show ((x : Int) * 2) = ((2 * x : Nat) : Int) from by omega, show (285 : Int) = ((285 : Nat) : Int) from rfl, i64_xor_nat _ _ (by omega) (by omega)])
              | (rw [show x / 128 % 2 = 0 from by omega, Nat.zero_mul, Nat.xor_zero]; go_num)
          · first
              | (rw [hp, Nat.one_mul, i64_xor_nat _ _ (by omega) (by omega)])
              | (rw [show b' % 2 = 0 from by omega, Nat.zero_mul, Nat.xor_zero])
        case measure => simp [intOf]; omega

theorem reduce_eq (n : Int) : (n.tmod 255 + 255) % 255 = n % 255 := by
  rw [Int.tmod_eq_emod]
  split <;> omega
set_option maxHeartbeats 400000 in
theorem reduce_any (n : Int) (_h1 : -9223372036854775808 ≤ n) (_h2 : n ≤ 9223372036854775807) (w : World) :
    Calls Try.prog 27 #[iv n] w fun e w' => e = .returned (iv (n % 255)) ∧ w = w' := by
  have h3 : -255 < n.tmod 255 := Int.lt_tmod_of_pos _ (by omega)
  have h4 : n.tmod 255 < 255 := Int.tmod_lt_of_pos _ (by omega)
  go_enter Try.func27, Try.ntmps27
  go_wp2
  go_ret
  exact ⟨congrArg (fun z : Int => Ending.returned (.int .i64 z)) (reduce_eq n), rfl⟩

set_option maxHeartbeats 400000 in
theorem add_any (a b : G) (w : World) :
    Calls Try.prog 18 #[bv a, bv b] w fun e w' => e = .returned (bv (a + b)) ∧ w = w' := by
  have e1 := G.add_val a b
  go_enter Try.func18, Try.ntmps18
  go_wp2
  go_ret
  exact ⟨rfl, rfl⟩

theorem gpow_half (x : G) (k : Nat) : gpow x k = (if k % 2 = 1 then x else 1) * gpow (x * x) (k / 2) := by
  rw [gpow_sq]
  split
  · conv => lhs; rw [show k = 1 + 2 * (k / 2) from by omega, gpow_add, gpow_one]
  · rw [G.one_mul]; congr 1; omega
set_option maxHeartbeats 400000 in
theorem power_any (a : G) (n : Int) (h1 : 0 ≤ n) (h2 : n ≤ 9223372036854775807) (w : World) :
    Calls Try.prog 26 #[bv a, iv n] w fun e w' => e = .returned (bv (gpow a n.toNat)) ∧ w = w' := by
  go_enter Try.func26, Try.ntmps26
  go_wp2
  go_loop [0, 1, 5] (fun a1 e1 o1 => ∃ (x o : G) (k : Nat), k ≤ 9223372036854775807 ∧ o * gpow x k = gpow a n.toNat ∧ a1 = bv x ∧ e1 = iv k ∧ o1 = bv o) (fun _ e1 _ => (intOf e1).toNat)
  case atStart => exact ⟨a, 1, n.toNat, by omega, G.one_mul _, rfl, by go_num, rfl⟩
  case round =>
    obtain ⟨x, o, k, hk, hx, rfl, rfl, rfl⟩ := hrel
    have HX := Lib.hid hx
    clear hx
    by_cases h0 : k = 0
    · subst h0
      go_wp2
      go_ret
      have := HX.out
      rw [gpow_zero, G.mul_one] at this
      exact ⟨by rw [← this]; rfl, rfl⟩
    · have e2 := i64_low k (by omega)
      by_cases hp : k % 2 = 1
      · have e1 : (bits BinOp.and IntKind.i64 (k : Int) 1 == 1) = true := by rw [e2, hp]; rfl
        clear e2
        go_wp2_with (go_at_call 19; refine (mul_any _ _ _).mono ?_; rintro e w' ⟨rfl, rfl⟩)
        go_round
        case rel => exact ⟨x * x, o * x, k / 2, by omega, by rw [← HX.out, gpow_half x k, if_pos hp, G.mul_assoc], rfl, by go_num, rfl⟩
        case measure => simp [intOf]; omega
      · have e1 : (bits BinOp.and IntKind.i64 (k : Int) 1 == 1) = false := by rw [e2, show k % 2 = 0 from by omega]; rfl
        clear e2
        go_wp2_with (go_at_call 19; refine (mul_any _ _ _).mono ?_; rintro e w' ⟨rfl, rfl⟩)
        go_round
        case rel => exact ⟨x * x, o, k / 2, by omega, by rw [← HX.out, gpow_half x k, if_neg hp, G.one_mul], rfl, by go_num, rfl⟩
        case measure => simp [intOf]; omega

theorem ret_pair {a b : Value} {a' b' : Value} (h : a = a') (h' : b = b') : Ending.returned (.tuple #[a, b]) = .returned (.tuple #[a', b']) := by rw [h, h']
def errDivide : Int := 3
set_option maxHeartbeats 400000 in
theorem inv_zero (w : World) :
    Calls Try.prog 21 #[bv 0] w fun e w' => e = .returned (.tuple #[bv 0, iv 3]) ∧ w = w' := by
  go_enter Try.func21, Try.ntmps21
  go_wp2
  go_ret2
  exact ⟨rfl, rfl⟩
theorem G.beq_zero {a : G} (h : a ≠ 0) : ((a.val : Int) == 0) = false := by
  have : a.val ≠ 0 := fun e => h (G.eq_of e)
  rw [beq_eq_false_iff_ne]; omega
set_option maxHeartbeats 400000 in
theorem inv_any (a : G) (h : a ≠ 0) (w : World) :
    Calls Try.prog 21 #[bv a] w fun e w' => e = .returned (.tuple #[bv (ginv a), iv 0]) ∧ w = w' := by
  have hb := G.beq_zero h
  go_enter Try.func21, Try.ntmps21
  go_wp2_with (go_at_call 26; refine (power_any _ _ (by omega) (by omega) _).mono ?_; rintro e w' ⟨rfl, rfl⟩)
  go_ret2
  exact ⟨rfl, rfl⟩
set_option maxHeartbeats 400000 in
theorem div_zero (a : G) (w : World) :
    Calls Try.prog 23 #[bv a, bv 0] w fun e w' => e = .returned (.tuple #[bv 0, iv 3]) ∧ w = w' := by
  go_enter Try.func23, Try.ntmps23
  go_wp2_with (go_at_call 21; refine (inv_zero _).mono ?_; rintro e w' ⟨rfl, rfl⟩)
  go_ret2
  exact ⟨rfl, rfl⟩
set_option maxHeartbeats 400000 in
theorem div_any (a b : G) (h : b ≠ 0) (w : World) :
    Calls Try.prog 23 #[bv a, bv b] w fun e w' => e = .returned (.tuple #[bv (a * ginv b), iv 0]) ∧ w = w' := by
  go_enter Try.func23, Try.ntmps23
  go_wp2_with (first | (go_at_call 21; refine (inv_any _ h _).mono ?_; rintro e w' ⟨rfl, rfl⟩) | (go_at_call 19; refine (mul_any _ _ _).mono ?_; rintro e w' ⟨rfl, rfl⟩))
  go_ret2
  exact ⟨rfl, rfl⟩
set_option maxHeartbeats 400000 in
theorem exp_any (n : Int) (h1 : -9223372036854775808 ≤ n) (h2 : n ≤ 9223372036854775807) (w : World) :
    Calls Try.prog 12 #[iv n] w fun e w' => e = .returned (bv (gpow 2 (n % 255).toNat)) ∧ w = w' := by
  go_enter Try.func12, Try.ntmps12
  go_wp2_with (first | (go_at_call 27; refine (reduce_any _ h1 h2 _).mono ?_; rintro e w' ⟨rfl, rfl⟩) | (go_at_call 26; refine (power_any 2 _ (by omega) (by omega) _).mono ?_; rintro e w' ⟨rfl, rfl⟩))
  go_ret
  exact ⟨rfl, rfl⟩
end Go.Proofs.Ytpbfkdfhfgeidaa
