/- WearLeast answers true, whatever the list of bands: Least returns what the reference returns. No condition. -/
import Derived.Test.YtgpjaocpdfcamaaWearAwake
namespace Go.Proofs.Ytgpjaocpdfcamaa.LWearLeast
open Go.RowKit Go.WideShapes Go.ChangeShapes Go.ChangeAt

set_option maxRecDepth 20000 in
set_option maxHeartbeats 2000000 in
theorem walk (w : World) (v : Value) (l : List Band) (hv : Bands w v l) :
    Calls Try.prog 3 #[v] w fun en w' => en = .returned (.bool true) ∧ Below w.heap.size w w' := by
  by_cases hlong : 100 < l.length
  · obtain ⟨A, c, rfl, hc, hm, hs⟩ := hv.1.open_
    clear hs hv
    go_enter Try.func3, Try.ntmps3
    go_wp2_with (fail)
    refine (awake_any _).mono ?_
    rintro e w1 ⟨rfl, hb1⟩
    go_wp2_with (fail)
    refine (awake_any _).mono ?_
    rintro e w2 ⟨rfl, hb2⟩
    go_wp2_with (fail)
    go_ret
    exact ⟨rfl, below_via hb1 hb2⟩
  · have hlen : l.length ≤ 1000000 := by omega
    have d1 : decide ((100 : Int) < (l.length : Int)) = false := by simp; omega
    have hL : leastV l = .tuple #[iv 0, iv 9] ∨ ∃ x, leastV l = .tuple #[iv x, iv 0] := by
      unfold leastV
      by_cases h : best l l.length < 0
      · rw [if_pos h]; exact .inl rfl
      · rw [if_neg h]; exact .inr ⟨_, rfl⟩
    have HL : Hid (∃ x y, leastV l = .tuple #[iv x, iv y]) := by
      rcases hL with h | ⟨x, h⟩
      · exact ⟨_, _, h⟩
      · exact ⟨_, _, h⟩
    obtain ⟨A, c, rfl, hc, hm, hs⟩ := hv.1.open_
    clear hs hL
    obtain ⟨x, y, hxy⟩ := HL.out
    have HXY := Lib.hid hxy
    clear hxy HL
    have HV := Lib.hid hv
    clear hv
    go_enter Try.func3, Try.ntmps3
    go_wp2_with (fail)
    refine (awake_any _).mono ?_
    rintro e w1 ⟨rfl, hb1⟩
    go_wp2_with (fail)
    refine (least_any _ l _ (HV.out.below hb1) hlen).mono ?_
    rintro e w2 ⟨rfl, hb2⟩
    rw [HXY.out]
    have b2 := below_via hb1 hb2
    go_wp2_with (fail)
    refine (rleast_any _ l _ (HV.out.below b2) hlen).mono ?_
    rintro e w3 ⟨rfl, hb3⟩
    rw [HXY.out]
    go_wp2_with (fail)
    go_ret
    exact ⟨rfl, below_via b2 hb3⟩

set_option maxRecDepth 100000 in
theorem lifted (os : Os) (started : os.Started) (H : Type) (enc : TypeId × Value → H) :
    ReturnsInHanded {} Try.checked os 3 .any (Rows.wearLeastSpec.pre6 enc Try.prog Try.f3 Rows.wearLeastRow.domain false) (Rows.wearLeastSpec.post enc Try.prog Try.f3 false true false false) := by
  refine returnsInHanded_of_change (C := Try.checked) own started (by kernel_rfl) Try.func3
    (ChangeSpec.witness6 (enc := enc) (C := Try.checked) false ⟨#[], #[.slice none 0 0], []⟩ 8 (by kernel_rfl) (by kernel_rfl) (by kernel_rfl) (by kernel_rfl)) ?_
  intro W base args ds gs before hval0 hW _ _
  have hval : ∀ (j : Nat) t v, Try.f3.params[j]? = some t → args[j]? = some v → Value.okWide Try.prog W .any base t v := hval0
  have hW' := hW
  obtain ⟨p, q, hA0, hV, rfl, hfz, hnd⟩ := hW
  have hA : DataW.TrodAll enc Try.prog W 0 (fun _ => true) true Try.f3.params.toList args.toList ds p := hA0
  rw [Try.params3] at hA hval
  obtain ⟨v0, vs0, d0, ds0, p0, q0, hargs, rfl, rfl, h0, r0⟩ := trodAll_cons hA
  obtain ⟨rfl, rfl, rfl⟩ := trodAll_nil r0
  obtain rfl : args = #[v0] := by cases args; simp_all
  obtain ⟨l, lb⟩ := open_bands (hval 0 22 v0 rfl rfl) h0
  refine (walk (w := W) v0 l lb).mono fun e W' ⟨he, hb⟩ => ?_
  subst he
  exact ⟨_, rfl, law_post laidOut (by kernel_rfl) rfl rfl Try.underlying4 (fun ds h => by match ds, h with | [_], _ => rfl) hW' hb⟩

theorem proved : Rows.WearLeastSaid :=
  OpenClaim.holds_of_wide 3 Try.f3 rfl rfl rfl rfl rfl rfl rfl ⟨rfl, rfl, rfl, rfl, rfl⟩ rfl rfl rfl rfl rfl (by kernel_rfl) Try.func3 (by kernel_rfl)
    (of_decide_eq_true (by kernel_rfl)) (by unfold Func.isWrapper; first | (rw [if_pos (by decide +kernel)]; kernel_rfl) | (rw [if_neg (by decide +kernel)]; exact ⟨rfl, rfl⟩))
    (fun os started H enc _ => lifted os started H enc)
end Go.Proofs.Ytgpjaocpdfcamaa.LWearLeast
