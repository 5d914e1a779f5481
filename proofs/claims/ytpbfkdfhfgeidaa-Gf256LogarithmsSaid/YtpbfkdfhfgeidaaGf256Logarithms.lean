/- Gf256Logarithms answers true, whatever the byte and the exponent: Exp returns the powers of 2, and Log is their inverse. No condition. -/
import Derived.Test.YtpbfkdfhfgeidaaLawGf
namespace Go.Proofs.Ytpbfkdfhfgeidaa.LGf256Logarithms
open Go.RowKit Go.WideShapes Go.ChangeShapes Go.ChangeAt

theorem ne_self (x : Int) : (x != x) = false := by simp
set_option maxRecDepth 20000 in
set_option maxHeartbeats 2000000 in
theorem walk (a : G) (n : Int) (h1 : -9223372036854775808 ≤ n) (h2 : n ≤ 9223372036854775807) (w : World) :
    Calls Try.prog 3 #[bv a, iv n] w fun e w' => e = .returned (.bool true) ∧ Below w.heap.size w w' := by
  have hn1 : 0 ≤ n % 255 := Int.emod_nonneg _ (by omega)
  have hn2 : n % 255 < 255 := Int.emod_lt_of_pos _ (by omega)
  by_cases ha : a = 0
  · subst ha
    go_enter Try.func3, Try.ntmps3
    go_wp2_with (first | (go_at_call 11; refine (awake_any _).mono ?_; rintro e w1 ⟨rfl, hb1⟩) | (go_at_call 12; refine (exp_any _ (by omega) (by omega) _).mono ?_; rintro e w' ⟨rfl, rfl⟩) | (go_at_call 13; refine (rexp_any _ (by omega) (by omega) _).mono ?_; rintro e w' ⟨rfl, rfl⟩) | (go_at_call 14; refine (log_zero _).mono ?_; rintro e w' ⟨rfl, rfl⟩))
    go_ret
    exact ⟨rfl, hb1⟩
  · have ea := G.beq_zero ha
    have hl := gpow_glog ha
    have hl1 := hl.1
    have HL : Hid (gpow 2 ((((glog a : Nat) : Int)) % 255).toNat = a) := by
      show _ = _
      rw [show (((glog a : Nat) : Int) % 255).toNat = glog a from by omega]
      exact hl.2
    have hz : gpow 2 (n % 255).toNat ≠ 0 := gpow_ne two_ne_zero _
    have HG : Hid ((((glog (gpow 2 (n % 255).toNat) : Nat)) : Int) = n % 255) := by
      show _ = _
      rw [glog_gpow (by omega)]
      omega
    have h3 : -255 < n.tmod 255 := Int.lt_tmod_of_pos _ (by omega)
    have h4 : n.tmod 255 < 255 := Int.tmod_lt_of_pos _ (by omega)
    have HT : Hid (((n.tmod 255 - n % 255).tmod 255 == 0) = true) := by
      show _ = _
      have e1 : n.tmod 255 = n % 255 ∨ n.tmod 255 + 255 = n % 255 := by
        rw [Int.tmod_eq_emod]
        split <;> omega
      rcases e1 with e | e
      · rw [e, Int.sub_self]; rfl
      · rw [show n.tmod 255 - n % 255 = -255 from by omega]; rfl
    have HA := Lib.hid ha
    have HZ := Lib.hid hz
    clear ha hz hl
    go_enter Try.func3, Try.ntmps3
    go_wp2_with (first | (go_at_call 11; refine (awake_any _).mono ?_; rintro e w1 ⟨rfl, hb1⟩) | (go_at_call 13; refine (rexp_any _ (by omega) (by omega) _).mono ?_; rintro e w' ⟨rfl, rfl⟩) | (go_at_call 12; refine (exp_any _ (by omega) (by omega) _).mono ?_; rintro e w' ⟨rfl, rfl⟩; try rw [HL.out]) | (go_at_call 14; (with_reducible refine (log_any a HA.out _).mono ?_); rintro e w' ⟨rfl, rfl⟩) | (go_at_call 14; (with_reducible refine (log_any _ HZ.out _).mono ?_); rintro e w' ⟨rfl, rfl⟩; rw [HG.out]; have eT := HT.out))
    go_ret
    exact ⟨rfl, hb1⟩

set_option maxRecDepth 100000 in
theorem lifted (os : Os) (started : os.Started) (H : Type) (enc : TypeId × Value → H) :
    ReturnsInHanded {} Try.checked os 3 .any (Rows.gf256LogarithmsSpec.pre6 enc Try.prog Try.f3 Rows.gf256LogarithmsRow.domain false) (Rows.gf256LogarithmsSpec.post enc Try.prog Try.f3 false true false false) := by
  refine returnsInHanded_of_change (C := Try.checked) own started (by kernel_rfl) Try.func3
    (ChangeSpec.witness6 (enc := enc) (C := Try.checked) false ⟨#[], #[.int .u8 0, .int .i64 0], []⟩ 8 (by kernel_rfl) (by kernel_rfl) (by kernel_rfl) (by kernel_rfl)) ?_
  intro W base args ds gs before hval0 hW _ _
  have hval : ∀ (j : Nat) t v, Try.f3.params[j]? = some t → args[j]? = some v → Value.okWide Try.prog W .any base t v := hval0
  have hW' := hW
  obtain ⟨p, q, hA0, hV, rfl, hfz, hnd⟩ := hW
  have hA : DataW.TrodAll enc Try.prog W 0 (fun _ => true) true Try.f3.params.toList args.toList ds p := hA0
  rw [Try.params3] at hA hval
  obtain ⟨v0, vs0, d0, ds0, p0, q0, hargs, rfl, rfl, h0, r0⟩ := trodAll_cons hA
  obtain ⟨v1, vs1, d1, ds1, p1, q1, rfl, rfl, rfl, h1, r1⟩ := trodAll_cons r0
  obtain ⟨rfl, rfl, rfl⟩ := trodAll_nil r1
  obtain rfl : args = #[v0, v1] := by cases args; simp_all
  obtain ⟨a, rfl⟩ := open_g (hval 0 5 v0 rfl rfl) h0
  obtain ⟨n, rfl, nlo, nhi⟩ := open_iv (hval 1 3 v1 rfl rfl) h1
  refine (walk a n nlo nhi W).mono fun e W' ⟨he, hb⟩ => ?_
  subst he
  exact ⟨_, rfl, law_post laidOut (by kernel_rfl) rfl rfl Try.underlying4 (fun ds h => by match ds, h with | [_, _], _ => rfl) hW' hb⟩

theorem proved : Rows.Gf256LogarithmsSaid :=
  OpenClaim.holds_of_wide 3 Try.f3 rfl rfl rfl rfl rfl rfl rfl ⟨rfl, rfl, rfl, rfl, rfl⟩ rfl rfl rfl rfl rfl (by kernel_rfl) Try.func3 (by kernel_rfl)
    (of_decide_eq_true (by kernel_rfl)) (by unfold Func.isWrapper; first | (rw [if_pos (by decide +kernel)]; kernel_rfl) | (rw [if_neg (by decide +kernel)]; exact ⟨rfl, rfl⟩))
    (fun os started H enc _ => lifted os started H enc)
end Go.Proofs.Ytpbfkdfhfgeidaa.LGf256Logarithms
