/- The field's product, walked. No condition. -/
import Derived.Test.YtlkemgefioiffaaGfPlain
import Derived.Test.YtlkemgefioiffaaProg
import Derived.WalkKit
import Derived.WalkSpells
import Derived.WalkLawsBesides
import Derived.Lib.Hide
namespace Go.Proofs.Ytlkemgefioiffaa
open Go.RowKit
abbrev bv (x : G) : Value := .int .u8 (x.val : Int)
abbrev iv (x : Int) : Value := .int .i64 x
theorem mulLoop_zero : ∀ (f x o : Nat), mulLoop f 0 x o = o
  | 0, _, _ => rfl
  | f + 1, x, o => by
    have := mulLoop_zero f (xt x) o
    simpa [mulLoop] using this
theorem u8_low (b : Nat) (h : b < 256) : bits BinOp.and IntKind.u8 (b : Int) 1 = ((b % 2 : Nat) : Int) := by
  rw [show (1 : Int) = ((1 : Nat) : Int) from rfl, u8_and_nat b 1 h (by omega), nat_mask1]
theorem ofInt_i64 (a : Nat) (ha : a < 9223372036854775808) : (BitVec.ofInt 64 (a : Int)).toNat = a := by
  rw [BitVec.ofInt_natCast, BitVec.toNat_ofNat]; exact Nat.mod_eq_of_lt (by omega)
theorem i64_and_nat (a b : Nat) (ha : a < 9223372036854775808) (hb : b < 9223372036854775808) : bits .and .i64 (a : Int) (b : Int) = ((a &&& b : Nat) : Int) := by
  have hx : a &&& b < 2 ^ 63 := Nat.and_lt_two_pow _ (by omega)
  show IntKind.i64.wrap ((BitVec.ofInt 64 (a : Int) &&& BitVec.ofInt 64 (b : Int)).toNat : Int) = _
  rw [BitVec.toNat_and, ofInt_i64 a ha, ofInt_i64 b hb, IntKind.wrap_i64]
  omega
theorem i64_xor_nat (a b : Nat) (ha : a < 9223372036854775808) (hb : b < 9223372036854775808) : bits .xor .i64 (a : Int) (b : Int) = ((a ^^^ b : Nat) : Int) := by
  have hx : a ^^^ b < 2 ^ 63 := Nat.xor_lt_two_pow (by omega) (by omega)
  show IntKind.i64.wrap ((BitVec.ofInt 64 (a : Int) ^^^ BitVec.ofInt 64 (b : Int)).toNat : Int) = _
  rw [BitVec.toNat_xor, ofInt_i64 a ha, ofInt_i64 b hb, IntKind.wrap_i64]
  omega
theorem i64_low (b : Nat) (h : b < 9223372036854775808) : bits BinOp.and IntKind.i64 (b : Int) 1 = ((b % 2 : Nat) : Int) := by
  rw [show (1 : Int) = ((1 : Nat) : Int) from rfl, i64_and_nat b 1 h (by omega), nat_mask1]
theorem G.add_val (a b : G) : bits BinOp.xor IntKind.u8 (a.val : Int) (b.val : Int) = (((a + b).val : Nat) : Int) := u8_xor_nat _ _ a.lt b.lt
set_option maxHeartbeats 400000 in
theorem mul_any (a b : G) (w : World) :
    Calls Try.prog 44 #[bv a, bv b] w fun e w' => e = .returned (bv (a * b)) ∧ w = w' := by
  have ha := a.lt
  have hb := b.lt
  go_enter Try.func44, Try.ntmps44
  go_wp2
  go_loop [1, 5, 6] (fun b1 x1 o1 => ∃ f b' x o : Nat, b' < 2 ^ f ∧ b' < 256 ∧ x < 256 ∧ o < 256 ∧ mulLoop f b' x o = gmul a.val b.val ∧ b1 = .int .u8 b' ∧ x1 = .int .i64 x ∧ o1 = .int .i64 o) (fun b1 _ _ => (intOf b1).toNat)
  case atStart => exact ⟨8, b.val, a.val, 0, hb, hb, ha, by omega, rfl, rfl, rfl, rfl⟩
  case round =>
    obtain ⟨f, b', x, o, h1, h2, h3, h4, h5, rfl, rfl, rfl⟩ := hrel
    have H5 := Lib.hid h5
    clear h5
    by_cases h0 : b' = 0
    · subst h0
      go_wp2
      go_ret
      refine ⟨?_, rfl⟩
      have := H5.out
      rw [mulLoop_zero] at this
      simp [bv, G.val_mul, this]
    · obtain ⟨f', rfl⟩ : ∃ f', f = f' + 1 := by
        cases f with
        | zero => simp at h1; omega
        | succ f' => exact ⟨f', rfl⟩
      have h6 : b' / 2 < 2 ^ f' := by rw [Nat.pow_succ] at h1; omega
      have hxt := xt_lt h3
      have hstep : mulLoop f' (b' / 2) (xt x) (o ^^^ (b' % 2 * x)) = gmul a.val b.val := H5.out
      have HS := Lib.hid hstep
      clear h1 hstep H5
      have e2 := u8_low b' h2
      by_cases hp : b' % 2 = 1 <;> by_cases hx : 255 < x * 2
      all_goals
        first
          | (have e1 : (bits BinOp.and IntKind.u8 (b' : Int) 1 == 1) = true := by rw [e2, hp]; rfl)
          | (have e1 : (bits BinOp.and IntKind.u8 (b' : Int) 1 == 1) = false := by rw [e2, show b' % 2 = 0 from by omega]; rfl)
        clear e2
        go_wp2
        go_round
        case rel =>
          have X := HS.out
          refine ⟨f', b' / 2, xt x, _, h6, by omega, hxt, ?_, X, by go_num, ?_, ?_⟩
          · exact xor_lt h4 (bit_lt _ h3)
          · unfold xt
            first
              | (rw [show x / 128 % 2 = 1 from by omega, Nat.one_mul]; rw [show ((x : Int) * 2) = ((2 * x : Nat) : Int) from by omega, show (285 : Int) = ((285 : Nat) : Int) from rfl, i64_xor_nat _ _ (by omega) (by omega)])
              | (rw [show x / 128 % 2 = 0 from by omega, Nat.zero_mul, Nat.xor_zero]; go_num)
          · first
              | (rw [hp, Nat.one_mul, i64_xor_nat _ _ (by omega) (by omega)])
              | (rw [show b' % 2 = 0 from by omega, Nat.zero_mul, Nat.xor_zero])
        case measure => simp [intOf]; omega
end Go.Proofs.Ytlkemgefioiffaa
