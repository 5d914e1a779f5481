/- The walks of the reference's product, powers and inverse, and of the program's Pow and Log. No condition. -/
import Derived.Test.YtpbfkdfhfgeidaaGfWalk
namespace Go.Proofs.Ytpbfkdfhfgeidaa
open Go.RowKit

theorem pow_lt {k m : Nat} (h : k ≤ m) : 2 ^ k ≤ 2 ^ m := Nat.pow_le_pow_right (by omega) h
theorem u8_bit (b k : Nat) (h : b < 256) : bits BinOp.and IntKind.u8 ((b : Int) / 2 ^ k) 1 = ((b / 2 ^ k % 2 : Nat) : Int) := by
  have e : (b : Int) / 2 ^ k = ((b / 2 ^ k : Nat) : Int) := by rw [Int.natCast_ediv, Int.natCast_pow]; rfl
  rw [e]
  exact u8_low _ (Nat.lt_of_le_of_lt (Nat.div_le_self _ _) h)
theorem i64_bit (b k : Nat) (h : b < 9223372036854775808) : bits BinOp.and IntKind.i64 ((b : Int) / 2 ^ k) 1 = ((b / 2 ^ k % 2 : Nat) : Int) := by
  have e : (b : Int) / 2 ^ k = ((b / 2 ^ k : Nat) : Int) := by rw [Int.natCast_ediv, Int.natCast_pow]; rfl
  rw [e]
  exact i64_low _ (Nat.lt_of_le_of_lt (Nat.div_le_self _ _) h)
theorem wrap64_nat (n : Nat) (h : n < 9223372036854775808) : wrap64 (n : Int) = (n : Int) := IntWalk.wrap64_in _ ⟨by omega, by omega⟩
theorem shift_lt {a k : Nat} (ha : a < 256) (hk : k < 8) : a * 2 ^ k < 32768 := by
  have h1 : 2 ^ k ≤ 2 ^ 7 := pow_lt (by omega)
  have h2 : a * 2 ^ k ≤ 255 * 2 ^ 7 := Nat.mul_le_mul (by omega) h1
  omega
theorem shift_lt' {k : Nat} (hk : k < 7) : 285 * 2 ^ k < 32768 := by
  have h1 : 2 ^ k ≤ 2 ^ 6 := pow_lt (by omega)
  have h2 : 285 * 2 ^ k ≤ 285 * 2 ^ 6 := Nat.mul_le_mul (by omega) h1
  omega
theorem xor_lt15 {a b : Nat} (ha : a < 32768) (hb : b < 32768) : a ^^^ b < 32768 := Nat.xor_lt_two_pow (n := 15) ha hb

set_option maxHeartbeats 1000000 in
theorem rmul_any (a b : G) (w : World) :
    Calls Try.prog 20 #[bv a, bv b] w fun e w' => e = .returned (bv (a * b)) ∧ w = w' := by
  have ha := a.lt
  have hb := b.lt
  go_enter Try.func20, Try.ntmps20
  go_wp2
  go_loop [5, 6] (fun p1 k1 => ∃ p k : Nat, k ≤ 8 ∧ p < 32768 ∧ p = rprod a.val b.val k ∧ p1 = iv p ∧ k1 = iv k) (fun _ k1 => 8 - (intOf k1).toNat)
  case atStart => exact ⟨0, 0, by omega, by omega, rfl, rfl, rfl⟩
  case round =>
    obtain ⟨p, k, hk, hp, hpe, rfl, rfl⟩ := hrel
    have HP := Lib.hid hpe
    clear hpe
    by_cases h8 : k < 8
    · have e2 := u8_bit b.val k hb
      have hs := shift_lt ha h8
      have ew : wrap64 ((a.val : Int) * 2 ^ k) = ((a.val * 2 ^ k : Nat) : Int) := by
        rw [show ((a.val : Int) * 2 ^ k) = ((a.val * 2 ^ k : Nat) : Int) from by rw [Int.natCast_mul, Int.natCast_pow]; rfl]
        exact wrap64_nat _ (by omega)
      by_cases hp1 : b.val / 2 ^ k % 2 = 1
      · have e1 : (bits BinOp.and IntKind.u8 ((b.val : Int) / 2 ^ k) 1 == 1) = true := by rw [e2, hp1]; rfl
        have ex := i64_xor_nat p (a.val * 2 ^ k) (by omega) (by omega)
        rw [← ew] at ex
        have EX := Lib.hid ex
        have H1 := Lib.hid hp1
        clear e2 ew ex hp1
        go_wp2
        go_round
        case rel => exact ⟨p ^^^ (a.val * 2 ^ k), k + 1, by omega, xor_lt15 hp hs, by rw [rprod, ← HP.out, H1.out, Nat.one_mul], by rw [EX.out], by go_num⟩
        case measure => simp [intOf]; omega
      · have e1 : (bits BinOp.and IntKind.u8 ((b.val : Int) / 2 ^ k) 1 == 1) = false := by rw [e2, show b.val / 2 ^ k % 2 = 0 from by omega]; rfl
        have H1 := Lib.hid (show b.val / 2 ^ k % 2 = 0 from by omega)
        clear e2 ew hp1
        go_wp2
        go_round
        case rel => exact ⟨p, k + 1, by omega, hp, by rw [rprod, ← HP.out, H1.out, Nat.zero_mul, Nat.xor_zero], rfl, by go_num⟩
        case measure => simp [intOf]; omega
    · obtain rfl : k = 8 := by omega
      have hfin : rdown 7 p = gmul a.val b.val := by rw [HP.out, rmul_eq ha hb]
      have HF := Lib.hid hfin
      clear hfin HP
      go_wp2
      go_loop [5, 7] (fun p1 k1 => ∃ p j : Nat, j ≤ 7 ∧ p < 32768 ∧ rdown j p = gmul a.val b.val ∧ p1 = iv p ∧ k1 = iv ((j:Int) + 7)) (fun _ k1 => (intOf k1).toNat)
      case atStart => exact ⟨p, 7, by omega, hp, HF.out, rfl, rfl⟩
      case round =>
        clear HF
        obtain ⟨q, j, hj, hq, hqe, rfl, rfl⟩ := hrel
        have HQ := Lib.hid hqe
        clear hqe
        by_cases h9 : 0 < j
        · obtain ⟨i, rfl⟩ : ∃ i, j = i + 1 := ⟨j - 1, by omega⟩
          have HS : Hid (rdown i (q ^^^ (q / 2 ^ (i + 8) % 2 * (285 * 2 ^ i))) = gmul a.val b.val) := HQ.out
          have e2 := i64_bit q (i + 8) (by omega)
          have hs := shift_lt' (k := i) (by omega)
          have ew : wrap64 (285 * 2 ^ i) = ((285 * 2 ^ i : Nat) : Int) := by
            rw [show ((285 : Int) * 2 ^ i) = ((285 * 2 ^ i : Nat) : Int) from by rw [Int.natCast_mul, Int.natCast_pow]; rfl]
            exact wrap64_nat _ (by omega)
          by_cases hp1 : q / 2 ^ (i + 8) % 2 = 1
          · have e1 : (bits BinOp.and IntKind.i64 ((q : Int) / 2 ^ (i + 8)) 1 == 1) = true := by rw [e2, hp1]; rfl
            have ex := i64_xor_nat q (285 * 2 ^ i) (by omega) (by omega)
            rw [← ew] at ex
            have EX := Lib.hid ex
            have H1 := Lib.hid hp1
            clear e2 ew ex hp1 HQ
            go_wp2
            go_round
            case rel => exact ⟨q ^^^ (285 * 2 ^ i), i, by omega, xor_lt15 hq hs, by rw [← HS.out, H1.out, Nat.one_mul], by rw [EX.out], by go_num⟩
            case measure => simp [intOf]; omega
          · have e1 : (bits BinOp.and IntKind.i64 ((q : Int) / 2 ^ (i + 8)) 1 == 1) = false := by rw [e2, show q / 2 ^ (i + 8) % 2 = 0 from by omega]; rfl
            have H1 := Lib.hid (show q / 2 ^ (i + 8) % 2 = 0 from by omega)
            clear e2 ew hp1 HQ
            go_wp2
            go_round
            case rel => exact ⟨q, i, by omega, hq, by rw [← HS.out, H1.out, Nat.zero_mul, Nat.xor_zero], rfl, by go_num⟩
            case measure => simp [intOf]; omega
        · obtain rfl : j = 0 := by omega
          have hlt : q < 256 := by have := HQ.out; rw [rdown] at this; rw [this]; exact gmul_lt ha
          have H2 : Hid (q = gmul a.val b.val) := HQ.out
          clear HQ
          go_wp2
          go_ret
          exact ⟨congrArg (fun z : Nat => Ending.returned (.int .u8 (z : Int))) H2.out, rfl⟩

set_option maxHeartbeats 400000 in
theorem rpower_any (a : G) (n : Int) (h1 : n ≤ 9223372036854775807) (w : World) :
    Calls Try.prog 25 #[bv a, iv n] w fun e w' => e = .returned (bv (gpow a n.toNat)) ∧ w = w' := by
  go_enter Try.func25, Try.ntmps25
  go_wp2
  go_loop [5, 6] (fun o1 k1 => ∃ k : Nat, (k = 0 ∨ (k : Int) ≤ n) ∧ o1 = bv (gpow a k) ∧ k1 = iv k) (fun _ k1 => (n - intOf k1).toNat)
  case atStart => exact ⟨0, .inl rfl, rfl, rfl⟩
  case round =>
    obtain ⟨k, hk, rfl, rfl⟩ := hrel
    by_cases hlt : (k : Int) < n
    · go_wp2_with (go_at_call 20; refine (rmul_any _ _ _).mono ?_; rintro e w' ⟨rfl, rfl⟩)
      go_round
      case rel => exact ⟨k + 1, .inr (by omega), rfl, by go_num⟩
      case measure => simp [intOf]; omega
    · have hn : Hid (n.toNat = k) := show _ = _ by omega
      go_wp2_with (fail)
      go_ret
      exact ⟨by rw [hn.out]; rfl, rfl⟩

set_option maxHeartbeats 400000 in
theorem rexp_any (n : Int) (_h1 : -9223372036854775808 ≤ n) (_h2 : n ≤ 9223372036854775807) (w : World) :
    Calls Try.prog 13 #[iv n] w fun e w' => e = .returned (bv (gpow 2 (n % 255).toNat)) ∧ w = w' := by
  have h3 : -255 < n.tmod 255 := Int.lt_tmod_of_pos _ (by omega)
  have h4 : n.tmod 255 < 255 := Int.tmod_lt_of_pos _ (by omega)
  have e1 : n.tmod 255 = n % 255 ∨ n.tmod 255 + 255 = n % 255 ∧ n.tmod 255 < 0 := by
    rw [Int.tmod_eq_emod]
    split <;> omega
  have H1 := Lib.hid e1
  by_cases h0 : n.tmod 255 < 0
  · go_enter Try.func13, Try.ntmps13
    clear e1
    go_wp2_with (go_at_call 25; refine (rpower_any 2 _ (by omega) _).mono ?_; rintro e w' ⟨rfl, rfl⟩)
    go_ret
    refine ⟨?_, rfl⟩
    have : n.tmod 255 + 255 = n % 255 := by have := H1.out; omega
    rw [← this]; rfl
  · go_enter Try.func13, Try.ntmps13
    clear e1
    go_wp2_with (go_at_call 25; refine (rpower_any 2 _ (by omega) _).mono ?_; rintro e w' ⟨rfl, rfl⟩)
    go_ret
    refine ⟨?_, rfl⟩
    have : n.tmod 255 = n % 255 := by have := H1.out; omega
    rw [← this]; rfl

/-- The element with the number k. -/
def gOf (k : Nat) : G := ⟨k % 256, Nat.mod_lt _ (by omega)⟩
theorem gOf_val {k : Nat} (h : k < 256) : (gOf k).val = k := Nat.mod_eq_of_lt h
theorem gOf_of (a : G) : gOf a.val = a := G.eq_of (gOf_val a.lt)
/-- Whether an element has an inverse. -/
def gnz (a : G) : Bool := decide (a ≠ 0)
set_option maxRecDepth 20000 in
set_option maxHeartbeats 400000 in
theorem rinv_any (a : G) (w : World) :
    Calls Try.prog 22 #[bv a] w fun e w' => e = .returned (.tuple #[bv (ginv a), .bool (gnz a)]) ∧ w = w' := by
  go_enter Try.func22, Try.ntmps22
  go_wp2
  go_loop [4] (fun k1 => ∃ k : Nat, 1 ≤ k ∧ k ≤ 256 ∧ (∀ j, 1 ≤ j → j < k → a * gOf j ≠ 1) ∧ k1 = iv k) (fun k1 => (256 - intOf k1).toNat)
  case atStart => exact ⟨1, by omega, by omega, fun j h1 h2 => absurd h1 (by omega), rfl⟩
  case round =>
    obtain ⟨k, hk1, hk2, hno, rfl⟩ := hrel
    have HNO := Lib.hid hno
    clear hno
    by_cases hlt : k < 256
    · obtain ⟨g, rfl⟩ : ∃ g : G, g.val = k := ⟨gOf k, gOf_val hlt⟩
      by_cases hm : a * g = 1
      · have e1 : (((a * g).val : Int) == 1) = true := by rw [hm]; rfl
        have hfin : Ending.returned (.tuple #[.int .u8 (g.val : Int), .bool true]) = .returned (.tuple #[bv (ginv a), .bool (gnz a)]) := by
          have ha : a ≠ 0 := fun e => by rw [e, G.zero_mul] at hm; exact one_ne_zero hm.symm
          rw [← ginv_unique hm, gnz, decide_eq_true ha]
        have HF := Lib.hid hfin
        clear hfin hm
        go_wp2_with (go_at_call 20; refine (rmul_any a g _).mono ?_; rintro e w' ⟨rfl, rfl⟩)
        go_ret2
        exact ⟨HF.out, rfl⟩
      · have e1 : (((a * g).val : Int) == 1) = false := by
          rw [beq_eq_false_iff_ne]
          exact fun e => hm (G.eq_of (by rw [G.val_one]; omega))
        have HM := Lib.hid hm
        clear hm
        go_wp2_with (go_at_call 20; refine (rmul_any a g _).mono ?_; rintro e w' ⟨rfl, rfl⟩)
        go_round
        case rel =>
          refine ⟨g.val + 1, by omega, by omega, fun j h1 h2 => ?_, by go_num⟩
          by_cases hj : j = g.val
          · rw [hj, gOf_of]; exact HM.out
          · exact HNO.out j h1 (by omega)
        case measure => simp [intOf]; omega
    · have hz : a = 0 := by
        by_cases ha : a = 0
        · exact ha
        · have hgi := ginv_ne ha
          have hv : (ginv a).val ≠ 0 := fun e => hgi (G.eq_of e)
          have := HNO.out (ginv a).val (by omega) (by have := (ginv a).lt; omega)
          rw [gOf_of, mul_ginv ha] at this
          exact absurd rfl this
      have HZ := Lib.hid hz
      clear hz
      go_wp2_with (fail)
      go_ret2
      refine ⟨?_, rfl⟩
      rw [HZ.out, ginv_zero]
      rfl

set_option maxHeartbeats 400000 in
theorem pow_zero (a : G) (w : World) :
    Calls Try.prog 24 #[bv a, iv 0] w fun e w' => e = .returned (.tuple #[bv 1, iv 0]) ∧ w = w' := by
  go_enter Try.func24, Try.ntmps24
  go_wp2
  go_ret2
  exact ⟨rfl, rfl⟩
set_option maxHeartbeats 400000 in
theorem zero_pow_neg (n : Int) (h : n < 0) (w : World) :
    Calls Try.prog 24 #[bv 0, iv n] w fun e w' => e = .returned (.tuple #[bv 0, iv 3]) ∧ w = w' := by
  have e0 : (n == 0) = false := by rw [beq_eq_false_iff_ne]; omega
  go_enter Try.func24, Try.ntmps24
  go_wp2
  go_ret2
  exact ⟨rfl, rfl⟩
set_option maxHeartbeats 400000 in
theorem zero_pow_pos (n : Int) (h : 0 < n) (w : World) :
    Calls Try.prog 24 #[bv 0, iv n] w fun e w' => e = .returned (.tuple #[bv 0, iv 0]) ∧ w = w' := by
  have e0 : (n == 0) = false := by rw [beq_eq_false_iff_ne]; omega
  have e1 : decide (n < 0) = false := by simp; omega
  go_enter Try.func24, Try.ntmps24
  go_wp2
  go_ret2
  exact ⟨rfl, rfl⟩
/-- The power of an element other than 0, whatever the exponent. -/
def zpow (a : G) (n : Int) : G := gpow a (n % 255).toNat
set_option maxHeartbeats 400000 in
theorem pow_any (a : G) (ha : a ≠ 0) (n : Int) (h1 : -9223372036854775808 ≤ n) (h2 : n ≤ 9223372036854775807) (w : World) :
    Calls Try.prog 24 #[bv a, iv n] w fun e w' => e = .returned (.tuple #[bv (zpow a n), iv 0]) ∧ w = w' := by
  by_cases h0 : n = 0
  · subst h0
    refine (pow_zero a w).mono fun e w' ⟨he, hw⟩ => ⟨?_, hw⟩
    rw [he]; rfl
  · have e0 : (n == 0) = false := by rw [beq_eq_false_iff_ne]; omega
    have e1 := G.beq_zero ha
    clear h0
    go_enter Try.func24, Try.ntmps24
    go_wp2_with (first | (go_at_call 27; refine (reduce_any _ h1 h2 _).mono ?_; rintro e w' ⟨rfl, rfl⟩) | (go_at_call 26; refine (power_any a _ (by omega) (by omega) _).mono ?_; rintro e w' ⟨rfl, rfl⟩))
    go_ret2
    exact ⟨rfl, rfl⟩

set_option maxHeartbeats 400000 in
theorem log_zero (w : World) :
    Calls Try.prog 14 #[bv 0] w fun e w' => e = .returned (.tuple #[iv 0, iv 9]) ∧ w = w' := by
  go_enter Try.func14, Try.ntmps14
  go_wp2
  go_ret2
  exact ⟨rfl, rfl⟩
set_option maxHeartbeats 400000 in
theorem log_any (a : G) (ha : a ≠ 0) (w : World) :
    Calls Try.prog 14 #[bv a] w fun e w' => e = .returned (.tuple #[iv (glog a), iv 0]) ∧ w = w' := by
  have e1 := G.beq_zero ha
  have hl := gpow_glog ha
  have HL := Lib.hid hl
  have hl1 := hl.1
  clear hl
  go_enter Try.func14, Try.ntmps14
  go_wp2
  go_loop [4, 5] (fun n1 x1 => ∃ n : Nat, n ≤ glog a ∧ n1 = iv n ∧ x1 = bv (gpow 2 n)) (fun n1 _ => glog a - (intOf n1).toNat)
  case atStart => exact ⟨0, by omega, rfl, rfl⟩
  case round =>
    obtain ⟨n, hn, rfl, rfl⟩ := hrel
    by_cases hlt : n < glog a
    · have e2 : (((gpow 2 n).val : Int) != (a.val : Int)) = true := by
        rw [bne_iff_ne]
        intro e
        have : gpow 2 n = gpow 2 (glog a) := by rw [HL.out.2]; exact G.eq_of (by omega)
        have := gpow_two_inj (by omega) hl1 this
        omega
      go_wp2_with (go_at_call 19; refine (mul_any _ 2 _).mono ?_; rintro e w' ⟨rfl, rfl⟩)
      go_round
      case rel => exact ⟨n + 1, by omega, by go_num, rfl⟩
      case measure => simp [intOf]; omega
    · have hn2 : n = glog a := by omega
      have e2 : (((gpow 2 n).val : Int) != (a.val : Int)) = false := by
        rw [hn2, HL.out.2]; simp
      have HN := Lib.hid hn2
      clear hn2
      go_wp2_with (fail)
      go_ret2
      exact ⟨by rw [← HN.out]; rfl, rfl⟩

theorem lit_refl (a : G) : (a.val : Int) = (a.val : Int) := rfl
theorem lit0 : (0 : Int) = ((0 : G).val : Int) := rfl
theorem lit1 : (1 : Int) = ((1 : G).val : Int) := rfl
theorem lit2 : (2 : Int) = ((2 : G).val : Int) := rfl
theorem mul_lit (x y : Int) (a b : G) (hx : x = (a.val : Int)) (hy : y = (b.val : Int)) (w : World) :
    Calls Try.prog 19 #[.int .u8 x, .int .u8 y] w fun e w' => e = .returned (bv (a * b)) ∧ w = w' := by
  subst hx; subst hy
  exact mul_any a b w
theorem add_lit (x y : Int) (a b : G) (hx : x = (a.val : Int)) (hy : y = (b.val : Int)) (w : World) :
    Calls Try.prog 18 #[.int .u8 x, .int .u8 y] w fun e w' => e = .returned (bv (a + b)) ∧ w = w' := by
  subst hx; subst hy
  exact add_any a b w
theorem rmul_lit (x y : Int) (a b : G) (hx : x = (a.val : Int)) (hy : y = (b.val : Int)) (w : World) :
    Calls Try.prog 20 #[.int .u8 x, .int .u8 y] w fun e w' => e = .returned (bv (a * b)) ∧ w = w' := by
  subst hx; subst hy
  exact rmul_any a b w
end Go.Proofs.Ytpbfkdfhfgeidaa
