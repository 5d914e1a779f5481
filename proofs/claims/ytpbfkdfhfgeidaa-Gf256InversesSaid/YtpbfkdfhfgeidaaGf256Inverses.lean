/- Gf256Inverses answers true, whatever the two bytes: all elements but 0 have an inverse, and Div undoes Mul. No condition. -/
import Derived.Test.YtpbfkdfhfgeidaaLawGf
namespace Go.Proofs.Ytpbfkdfhfgeidaa.LGf256Inverses
open Go.RowKit Go.WideShapes Go.ChangeShapes Go.ChangeAt

theorem gnz_of {a : G} (h : a ≠ 0) : gnz a = true := decide_eq_true h
theorem gnz_zero : gnz 0 = false := by decide
set_option maxRecDepth 20000 in
set_option maxHeartbeats 2000000 in
theorem walk (a b : G) (w : World) :
    Calls Try.prog 8 #[bv a, bv b] w fun e w' => e = .returned (.bool true) ∧ Below w.heap.size w w' := by
  by_cases ha : a = 0
  · subst ha
    have g0 := gnz_zero
    have g1 : ginv 0 = 0 := ginv_zero
    by_cases hb : b = 0
    · subst hb
      go_enter Try.func8, Try.ntmps8
      go_wp2_with (first | (go_at_call 11; refine (awake_any _).mono ?_; rintro e w1 ⟨rfl, hb1⟩) | (go_at_call 21; refine (inv_zero _).mono ?_; rintro e w' ⟨rfl, rfl⟩) | (go_at_call 22; refine (rinv_any 0 _).mono ?_; rintro e w' ⟨rfl, rfl⟩) | (go_at_call 19; refine (mul_any 0 0 _).mono ?_; rintro e w' ⟨rfl, rfl⟩) | (go_at_call 23; refine (div_zero _ _).mono ?_; rintro e w' ⟨rfl, rfl⟩))
      go_ret
      exact ⟨rfl, hb1⟩
    · have eb := G.beq_zero hb
      have em : (0 : G) * b = 0 := G.zero_mul b
      have em2 : (0 : G) * ginv b = 0 := G.zero_mul _
      have HB := Lib.hid hb
      clear hb
      go_enter Try.func8, Try.ntmps8
      go_wp2_with (first | (go_at_call 11; refine (awake_any _).mono ?_; rintro e w1 ⟨rfl, hb1⟩) | (go_at_call 21; refine (inv_zero _).mono ?_; rintro e w' ⟨rfl, rfl⟩) | (go_at_call 22; refine (rinv_any 0 _).mono ?_; rintro e w' ⟨rfl, rfl⟩) | (go_at_call 19; refine (mul_any 0 b _).mono ?_; rintro e w' ⟨rfl, rfl⟩; rw [em]) | (go_at_call 23; refine (div_any 0 b HB.out _).mono ?_; rintro e w' ⟨rfl, rfl⟩; rw [em2]))
      go_ret
      exact ⟨rfl, hb1⟩
  · have ea := G.beq_zero ha
    have ga := gnz_of ha
    have ei : (((a * ginv a).val : Int) == 1) = true := by rw [mul_ginv ha]; rfl
    have HA := Lib.hid ha
    clear ha
    by_cases hb : b = 0
    · subst hb
      have em : a * 0 = 0 := G.mul_zero a
      go_enter Try.func8, Try.ntmps8
      go_wp2_with (first | (go_at_call 11; refine (awake_any _).mono ?_; rintro e w1 ⟨rfl, hb1⟩) | (go_at_call 21; refine (inv_any a HA.out _).mono ?_; rintro e w' ⟨rfl, rfl⟩) | (go_at_call 22; refine (rinv_any a _).mono ?_; rintro e w' ⟨rfl, rfl⟩) | (go_at_call 19; refine (mul_any a 0 _).mono ?_; rintro e w' ⟨rfl, rfl⟩; rw [em]) | (go_at_call 23; refine (div_zero _ _).mono ?_; rintro e w' ⟨rfl, rfl⟩))
      go_ret
      exact ⟨rfl, hb1⟩
    · have eb := G.beq_zero hb
      have em : a * b * ginv b = a := by rw [G.mul_assoc, mul_ginv hb, G.mul_one]
      have HM := Lib.hid em
      have HB := Lib.hid hb
      clear hb em
      go_enter Try.func8, Try.ntmps8
      go_wp2_with (first | (go_at_call 11; refine (awake_any _).mono ?_; rintro e w1 ⟨rfl, hb1⟩) | (go_at_call 21; refine (inv_any a HA.out _).mono ?_; rintro e w' ⟨rfl, rfl⟩) | (go_at_call 22; refine (rinv_any a _).mono ?_; rintro e w' ⟨rfl, rfl⟩) | (go_at_call 19; refine (mul_lit _ _ _ _ (by first | exact lit_refl _ | exact lit0 | exact lit1 | exact lit2) (by first | exact lit_refl _ | exact lit0 | exact lit1 | exact lit2) _).mono ?_; rintro e w' ⟨rfl, rfl⟩) | (go_at_call 23; refine (div_any (a * b) b HB.out _).mono ?_; rintro e w' ⟨rfl, rfl⟩; rw [HM.out]))
      go_ret
      exact ⟨rfl, hb1⟩

set_option maxRecDepth 100000 in
theorem lifted (os : Os) (started : os.Started) (H : Type) (enc : TypeId × Value → H) :
    ReturnsInHanded {} Try.checked os 8 .any (Rows.gf256InversesSpec.pre6 enc Try.prog Try.f8 Rows.gf256InversesRow.domain false) (Rows.gf256InversesSpec.post enc Try.prog Try.f8 false true false false) := by
  refine returnsInHanded_of_change (C := Try.checked) own started (by kernel_rfl) Try.func8
    (ChangeSpec.witness6 (enc := enc) (C := Try.checked) false ⟨#[], #[.int .u8 0, .int .u8 0], []⟩ 8 (by kernel_rfl) (by kernel_rfl) (by kernel_rfl) (by kernel_rfl)) ?_
  intro W base args ds gs before hval0 hW _ _
  have hval : ∀ (j : Nat) t v, Try.f8.params[j]? = some t → args[j]? = some v → Value.okWide Try.prog W .any base t v := hval0
  have hW' := hW
  obtain ⟨p, q, hA0, hV, rfl, hfz, hnd⟩ := hW
  have hA : DataW.TrodAll enc Try.prog W 0 (fun _ => true) true Try.f8.params.toList args.toList ds p := hA0
  rw [Try.params8] at hA hval
  obtain ⟨v0, vs0, d0, ds0, p0, q0, hargs, rfl, rfl, h0, r0⟩ := trodAll_cons hA
  obtain ⟨v1, vs1, d1, ds1, p1, q1, rfl, rfl, rfl, h1, r1⟩ := trodAll_cons r0
  obtain ⟨rfl, rfl, rfl⟩ := trodAll_nil r1
  obtain rfl : args = #[v0, v1] := by cases args; simp_all
  obtain ⟨a, rfl⟩ := open_g (hval 0 5 v0 rfl rfl) h0
  obtain ⟨b, rfl⟩ := open_g (hval 1 5 v1 rfl rfl) h1
  refine (walk a b W).mono fun e W' ⟨he, hb⟩ => ?_
  subst he
  exact ⟨_, rfl, law_post laidOut (by kernel_rfl) rfl rfl Try.underlying4 (fun ds h => by match ds, h with | [_, _], _ => rfl) hW' hb⟩

theorem proved : Rows.Gf256InversesSaid :=
  OpenClaim.holds_of_wide 8 Try.f8 rfl rfl rfl rfl rfl rfl rfl ⟨rfl, rfl, rfl, rfl, rfl⟩ rfl rfl rfl rfl rfl (by kernel_rfl) Try.func8 (by kernel_rfl)
    (of_decide_eq_true (by kernel_rfl)) (by unfold Func.isWrapper; first | (rw [if_pos (by decide +kernel)]; kernel_rfl) | (rw [if_neg (by decide +kernel)]; exact ⟨rfl, rfl⟩))
    (fun os started H enc _ => lifted os started H enc)
end Go.Proofs.Ytpbfkdfhfgeidaa.LGf256Inverses
