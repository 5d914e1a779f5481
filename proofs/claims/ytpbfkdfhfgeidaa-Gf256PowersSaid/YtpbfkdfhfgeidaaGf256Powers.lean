/- Gf256Powers answers true, whatever the byte and the exponent: Pow returns the power, for negative exponents the inverse's. No condition. -/
import Derived.Test.YtpbfkdfhfgeidaaLawGf
namespace Go.Proofs.Ytpbfkdfhfgeidaa.LGf256Powers
open Go.RowKit Go.WideShapes Go.ChangeShapes Go.ChangeAt

theorem zero_pow (n : Int) (h : 0 ≤ n) (w : World) :
    Calls Try.prog 24 #[bv 0, iv n] w fun e w' => e = .returned (.tuple #[bv (gpow 0 n.toNat), iv 0]) ∧ w = w' := by
  by_cases h0 : n = 0
  · subst h0
    exact pow_zero 0 w
  · have e : gpow 0 n.toNat = 0 := zero_gpow (by omega)
    rw [e]
    exact zero_pow_pos n (by omega) w
theorem zpow_congr (a : G) {m n : Int} (h : m % 255 = n % 255) : zpow a m = zpow a n := by unfold zpow; rw [h]
theorem tmod_emod (n : Int) : n.tmod 255 % 255 = n % 255 := by
  rw [Int.tmod_eq_emod]
  split <;> omega
theorem zpow_nat {a : G} (ha : a ≠ 0) (n : Int) (h : 0 ≤ n) : zpow a n = gpow a n.toNat := by
  unfold zpow
  rw [show (n % 255).toNat = n.toNat % 255 from by omega, gpow_mod ha]
theorem zpow_neg {a : G} (ha : a ≠ 0) (n : Int) (h : n < 0) : ginv (gpow a (-n).toNat) = zpow a n := by
  symm
  apply ginv_unique
  unfold zpow
  rw [← gpow_add, ← gpow_mod ha, show ((-n).toNat + (n % 255).toNat) % 255 = 0 from by omega, gpow_zero]
theorem ne_self (x : Int) : (x != x) = false := by simp
set_option maxRecDepth 20000 in
set_option maxHeartbeats 2000000 in
theorem walk (a : G) (n : Int) (h1 : -9223372036854775808 ≤ n) (h2 : n ≤ 9223372036854775807) (w : World) :
    Calls Try.prog 9 #[bv a, iv n] w fun e w' => e = .returned (.bool true) ∧ Below w.heap.size w w' := by
  by_cases ha : a = 0
  · subst ha
    rcases Int.lt_or_le n 0 with hn | hn
    · go_enter Try.func9, Try.ntmps9
      go_wp2_with (first | (go_at_call 11; refine (awake_any _).mono ?_; rintro e w1 ⟨rfl, hb1⟩) | (go_at_call 24; refine (zero_pow_neg _ hn _).mono ?_; rintro e w' ⟨rfl, rfl⟩))
      go_ret
      exact ⟨rfl, hb1⟩
    · by_cases hb : n ≤ 600
      · have ed : decide (n < -600) = false := by simp; omega
        have em : max n (-n) = n := by omega
        go_enter Try.func9, Try.ntmps9
        go_wp2_with (first | (go_at_call 11; refine (awake_any _).mono ?_; rintro e w1 ⟨rfl, hb1⟩) | (go_at_call 24; refine (zero_pow _ hn _).mono ?_; rintro e w' ⟨rfl, rfl⟩) | (go_at_call 25; refine (rpower_any 0 n (by omega) _).mono ?_; rintro e w' ⟨rfl, rfl⟩))
        go_ret
        exact ⟨rfl, hb1⟩
      · have e0 : gpow 0 n.toNat = 0 := zero_gpow (by omega)
        go_enter Try.func9, Try.ntmps9
        go_wp2_with (first | (go_at_call 11; refine (awake_any _).mono ?_; rintro e w1 ⟨rfl, hb1⟩) | (go_at_call 24; (with_reducible refine (zero_pow n hn _).mono ?_); rintro e w' ⟨rfl, rfl⟩; rw [e0]) | (go_at_call 24; (with_reducible refine (zero_pow (n % 255) (by omega) _).mono ?_); rintro e w' ⟨rfl, rfl⟩))
        go_ret
        exact ⟨rfl, hb1⟩
  · have ea := G.beq_zero ha
    have en : (((a.val : Nat) : Int) != 0) = true := by rw [bne_iff_ne]; intro e; rw [e] at ea; cases ea
    have HA := Lib.hid ha
    clear ha
    rcases Int.lt_or_le n 0 with hn | hn
    · by_cases hb : -600 ≤ n
      · have hd := zpow_neg HA.out n hn
        have HD := Lib.hid hd
        clear hd
        have em : max n (-n) = -n := by omega
        go_enter Try.func9, Try.ntmps9
        go_wp2_with (first | (go_at_call 11; refine (awake_any _).mono ?_; rintro e w1 ⟨rfl, hb1⟩) | (go_at_call 24; refine (pow_any a HA.out _ (by omega) (by omega) _).mono ?_; rintro e w' ⟨rfl, rfl⟩) | (go_at_call 25; refine (rpower_any a (-n) (by omega) _).mono ?_; rintro e w' ⟨rfl, rfl⟩) | (go_at_call 22; refine (rinv_any _ _).mono ?_; rintro e w' ⟨rfl, rfl⟩; rw [HD.out]))
        go_ret
        exact ⟨rfl, hb1⟩
      · have hd : zpow a (n.tmod 255) = zpow a n := zpow_congr a (tmod_emod n)
        have HD := Lib.hid hd
        clear hd
        have h3 : -255 < n.tmod 255 := Int.lt_tmod_of_pos _ (by omega)
        have h4 : n.tmod 255 < 255 := Int.tmod_lt_of_pos _ (by omega)
        go_enter Try.func9, Try.ntmps9
        go_wp2_with (first | (go_at_call 11; refine (awake_any _).mono ?_; rintro e w1 ⟨rfl, hb1⟩) | (go_at_call 24; refine (pow_any a HA.out _ (by omega) (by omega) _).mono ?_; rintro e w' ⟨rfl, rfl⟩; try rw [HD.out]))
        go_ret
        exact ⟨rfl, hb1⟩
    · by_cases hb : n ≤ 600
      · have hd := zpow_nat HA.out n hn
        have HD := Lib.hid hd
        clear hd
        have ed : decide (n < -600) = false := by simp; omega
        have em : max n (-n) = n := by omega
        go_enter Try.func9, Try.ntmps9
        go_wp2_with (first | (go_at_call 11; refine (awake_any _).mono ?_; rintro e w1 ⟨rfl, hb1⟩) | (go_at_call 24; refine (pow_any a HA.out _ (by omega) (by omega) _).mono ?_; rintro e w' ⟨rfl, rfl⟩; rw [HD.out]) | (go_at_call 25; refine (rpower_any a n (by omega) _).mono ?_; rintro e w' ⟨rfl, rfl⟩))
        go_ret
        exact ⟨rfl, hb1⟩
      · have hd : zpow a (n % 255) = zpow a n := zpow_congr a (by omega)
        have HD := Lib.hid hd
        clear hd
        go_enter Try.func9, Try.ntmps9
        go_wp2_with (first | (go_at_call 11; refine (awake_any _).mono ?_; rintro e w1 ⟨rfl, hb1⟩) | (go_at_call 24; refine (pow_any a HA.out _ (by omega) (by omega) _).mono ?_; rintro e w' ⟨rfl, rfl⟩; try rw [HD.out]))
        go_ret
        exact ⟨rfl, hb1⟩

set_option maxRecDepth 100000 in
theorem lifted (os : Os) (started : os.Started) (H : Type) (enc : TypeId × Value → H) :
    ReturnsInHanded {} Try.checked os 9 .any (Rows.gf256PowersSpec.pre6 enc Try.prog Try.f9 Rows.gf256PowersRow.domain false) (Rows.gf256PowersSpec.post enc Try.prog Try.f9 false true false false) := by
  refine returnsInHanded_of_change (C := Try.checked) own started (by kernel_rfl) Try.func9
    (ChangeSpec.witness6 (enc := enc) (C := Try.checked) false ⟨#[], #[.int .u8 0, .int .i64 0], []⟩ 8 (by kernel_rfl) (by kernel_rfl) (by kernel_rfl) (by kernel_rfl)) ?_
  intro W base args ds gs before hval0 hW _ _
  have hval : ∀ (j : Nat) t v, Try.f9.params[j]? = some t → args[j]? = some v → Value.okWide Try.prog W .any base t v := hval0
  have hW' := hW
  obtain ⟨p, q, hA0, hV, rfl, hfz, hnd⟩ := hW
  have hA : DataW.TrodAll enc Try.prog W 0 (fun _ => true) true Try.f9.params.toList args.toList ds p := hA0
  rw [Try.params9] at hA hval
  obtain ⟨v0, vs0, d0, ds0, p0, q0, hargs, rfl, rfl, h0, r0⟩ := trodAll_cons hA
  obtain ⟨v1, vs1, d1, ds1, p1, q1, rfl, rfl, rfl, h1, r1⟩ := trodAll_cons r0
  obtain ⟨rfl, rfl, rfl⟩ := trodAll_nil r1
  obtain rfl : args = #[v0, v1] := by cases args; simp_all
  obtain ⟨a, rfl⟩ := open_g (hval 0 5 v0 rfl rfl) h0
  obtain ⟨n, rfl, nlo, nhi⟩ := open_iv (hval 1 3 v1 rfl rfl) h1
  refine (walk a n nlo nhi W).mono fun e W' ⟨he, hb⟩ => ?_
  subst he
  exact ⟨_, rfl, law_post laidOut (by kernel_rfl) rfl rfl Try.underlying4 (fun ds h => by match ds, h with | [_, _], _ => rfl) hW' hb⟩

theorem proved : Rows.Gf256PowersSaid :=
  OpenClaim.holds_of_wide 9 Try.f9 rfl rfl rfl rfl rfl rfl rfl ⟨rfl, rfl, rfl, rfl, rfl⟩ rfl rfl rfl rfl rfl (by kernel_rfl) Try.func9 (by kernel_rfl)
    (of_decide_eq_true (by kernel_rfl)) (by unfold Func.isWrapper; first | (rw [if_pos (by decide +kernel)]; kernel_rfl) | (rw [if_neg (by decide +kernel)]; exact ⟨rfl, rfl⟩))
    (fun os started H enc _ => lifted os started H enc)
end Go.Proofs.Ytpbfkdfhfgeidaa.LGf256Powers
