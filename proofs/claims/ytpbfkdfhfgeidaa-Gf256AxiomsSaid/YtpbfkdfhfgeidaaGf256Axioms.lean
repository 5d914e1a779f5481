/- Gf256Axioms answers true, whatever the three bytes: the axioms of commutative rings. No condition. -/
import Derived.Test.YtpbfkdfhfgeidaaLawGf
namespace Go.Proofs.Ytpbfkdfhfgeidaa.LGf256Axioms
open Go.RowKit Go.WideShapes Go.ChangeShapes Go.ChangeAt

theorem ne_self (x : Int) : (x != x) = false := by simp
theorem eq_self (x : Int) : (x == x) = true := by simp
set_option maxHeartbeats 2000000 in
theorem walk (a b c : G) (w : World) :
    Calls Try.prog 6 #[bv a, bv b, bv c] w fun e w' => e = .returned (.bool true) ∧ Below w.heap.size w w' := by
  have e1 : (((a + b).val : Int) != ((b + a).val : Int)) = false := by rw [G.add_comm]; exact ne_self _
  have e2 : (((a * b).val : Int) != ((b * a).val : Int)) = false := by rw [G.mul_comm]; exact ne_self _
  have e3 : (((a + b + c).val : Int) != ((a + (b + c)).val : Int)) = false := by rw [G.add_assoc]; exact ne_self _
  have e4 : (((a * b * c).val : Int) != ((a * (b * c)).val : Int)) = false := by rw [G.mul_assoc]; exact ne_self _
  have e5 : (((a * (b + c)).val : Int) == ((a * b + a * c).val : Int)) = true := by rw [G.mul_add]; exact eq_self _
  have e6 : (((a + 0).val : Int) == (a.val : Int)) = true := by rw [G.add_zero]; exact eq_self _
  have e7 : (((a * 1).val : Int) == (a.val : Int)) = true := by rw [G.mul_one]; exact eq_self _
  have e8 : (((a * 0).val : Int) == 0) = true := by rw [G.mul_zero]; rfl
  have e9 : (((a + a).val : Int) == 0) = true := by rw [G.add_self]; rfl
  go_enter Try.func6, Try.ntmps6
  go_wp2_with (first | (go_at_call 11; refine (awake_any _).mono ?_; rintro e w1 ⟨rfl, hb1⟩) | (go_at_call 18; refine (add_lit _ _ _ _ (by first | exact lit_refl _ | exact lit0 | exact lit1 | exact lit2) (by first | exact lit_refl _ | exact lit0 | exact lit1 | exact lit2) _).mono ?_; rintro e w' ⟨rfl, rfl⟩) | (go_at_call 19; refine (mul_lit _ _ _ _ (by first | exact lit_refl _ | exact lit0 | exact lit1 | exact lit2) (by first | exact lit_refl _ | exact lit0 | exact lit1 | exact lit2) _).mono ?_; rintro e w' ⟨rfl, rfl⟩))
  go_ret
  exact ⟨rfl, hb1⟩

set_option maxRecDepth 100000 in
theorem lifted (os : Os) (started : os.Started) (H : Type) (enc : TypeId × Value → H) :
    ReturnsInHanded {} Try.checked os 6 .any (Rows.gf256AxiomsSpec.pre6 enc Try.prog Try.f6 Rows.gf256AxiomsRow.domain false) (Rows.gf256AxiomsSpec.post enc Try.prog Try.f6 false true false false) := by
  refine returnsInHanded_of_change (C := Try.checked) own started (by kernel_rfl) Try.func6
    (ChangeSpec.witness6 (enc := enc) (C := Try.checked) false ⟨#[], #[.int .u8 0, .int .u8 0, .int .u8 0], []⟩ 8 (by kernel_rfl) (by kernel_rfl) (by kernel_rfl) (by kernel_rfl)) ?_
  intro W base args ds gs before hval0 hW _ _
  have hval : ∀ (j : Nat) t v, Try.f6.params[j]? = some t → args[j]? = some v → Value.okWide Try.prog W .any base t v := hval0
  have hW' := hW
  obtain ⟨p, q, hA0, hV, rfl, hfz, hnd⟩ := hW
  have hA : DataW.TrodAll enc Try.prog W 0 (fun _ => true) true Try.f6.params.toList args.toList ds p := hA0
  rw [Try.params6] at hA hval
  obtain ⟨v0, vs0, d0, ds0, p0, q0, hargs, rfl, rfl, h0, r0⟩ := trodAll_cons hA
  obtain ⟨v1, vs1, d1, ds1, p1, q1, rfl, rfl, rfl, h1, r1⟩ := trodAll_cons r0
  obtain ⟨v2, vs2, d2, ds2, p2, q2, rfl, rfl, rfl, h2, r2⟩ := trodAll_cons r1
  obtain ⟨rfl, rfl, rfl⟩ := trodAll_nil r2
  obtain rfl : args = #[v0, v1, v2] := by cases args; simp_all
  obtain ⟨a, rfl⟩ := open_g (hval 0 5 v0 rfl rfl) h0
  obtain ⟨b, rfl⟩ := open_g (hval 1 5 v1 rfl rfl) h1
  obtain ⟨c, rfl⟩ := open_g (hval 2 5 v2 rfl rfl) h2
  refine (walk a b c W).mono fun e W' ⟨he, hb⟩ => ?_
  subst he
  exact ⟨_, rfl, law_post laidOut (by kernel_rfl) rfl rfl Try.underlying4 (fun ds h => by match ds, h with | [_, _, _], _ => rfl) hW' hb⟩

theorem proved : Rows.Gf256AxiomsSaid :=
  OpenClaim.holds_of_wide 6 Try.f6 rfl rfl rfl rfl rfl rfl rfl ⟨rfl, rfl, rfl, rfl, rfl⟩ rfl rfl rfl rfl rfl (by kernel_rfl) Try.func6 (by kernel_rfl)
    (of_decide_eq_true (by kernel_rfl)) (by unfold Func.isWrapper; first | (rw [if_pos (by decide +kernel)]; kernel_rfl) | (rw [if_neg (by decide +kernel)]; exact ⟨rfl, rfl⟩))
    (fun os started H enc _ => lifted os started H enc)
end Go.Proofs.Ytpbfkdfhfgeidaa.LGf256Axioms
