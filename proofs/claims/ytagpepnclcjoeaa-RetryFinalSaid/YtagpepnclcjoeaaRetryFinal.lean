/- RetryFinal answers true, whatever the state and the error: any error but ErrBusy is final at once and leaves the state, and so does OK. No condition. -/
import Derived.Test.YtagpepnclcjoeaaRetryAwake
namespace Go.Proofs.Ytagpepnclcjoeaa.LRetryFinal
open Go.RowKit Go.WideShapes Go.ChangeShapes Go.ChangeAt

attribute [local go_sem] cell_setCell_self isSome_setCell
set_option maxHeartbeats 2000000 in
theorem walk (t x e : Int) (w : World) :
    Calls Try.prog 4 #[sv t x, iv e] w fun en w' => en = .returned (.bool true) ∧ Below w.heap.size w w' := by
  by_cases h16 : e = 16
  · subst h16
    go_enter Try.func4, Try.ntmps4
    go_wp2_with (first | (go_at_call 9; refine (awake_any _).mono ?_; rintro e w1 ⟨rfl, hb1⟩))
    go_ret
    exact ⟨rfl, below_via (below_alloc w _) hb1⟩
  · have e16 : (e == 16) = false := beq_eq_false_iff_ne.2 h16
    cases hv : vld t x
    · have HV := Lib.hid hv
      clear hv h16
      go_enter Try.func4, Try.ntmps4
      go_wp2_with (fail)
      refine (awake_any _).mono ?_
      rintro e w1 ⟨rfl, hb1⟩
      have q0 : w1.cell? ⟨w.heap.size, 0, none⟩ = some (iv t) := ((old_cells hb1).1 _ _ (by simp)).trans (by go_simp)
      have q1 : w1.cell? ⟨w.heap.size, 1, none⟩ = some (iv x) := ((old_cells hb1).1 _ _ (by simp)).trans (by go_simp)
      go_wp2_with (first | (go_at_call 13; refine (rvalid_any _ _ _).mono ?_; rintro e w2 ⟨rfl, hb2⟩; rw [HV.out]))
      go_ret
      exact ⟨rfl, below_via (below_via (below_alloc w _) hb1) hb2⟩
    · have HV := Lib.hid hv
      have hn := n_of hv
      have hr : rd t x e = if e = 0 then 1 else 3 := by
        unfold rd
        by_cases h0 : e = 0
        · rw [if_pos h0, if_pos h0]
        · rw [if_neg h0, if_neg h0, if_neg (fun h => h16 h.1)]
      have hd2 : rd t x e ≠ 2 := by rw [hr]; split <;> omega
      have hrt : rt t x e = t ∧ rx t x e = x := by unfold rt rx; rw [if_neg hd2, if_neg hd2]; exact hn
      have HR := Lib.hid (result_any t x e)
      rw [hrt.1, hrt.2] at HR
      have HD := Lib.hid hr
      by_cases h0 : e = 0
      · have e0 : (e == 0) = true := beq_iff_eq.2 h0
        have e0' : (e != 0) = false := by rw [h0]; rfl
        rw [hr, if_pos h0] at HR
        clear hv h16 hn hr hd2 hrt h0
        go_enter Try.func4, Try.ntmps4
        go_wp2_with (fail)
        refine (awake_any _).mono ?_
        rintro e w1 ⟨rfl, hb1⟩
        have q0 : w1.cell? ⟨w.heap.size, 0, none⟩ = some (iv t) := ((old_cells hb1).1 _ _ (by simp)).trans (by go_simp)
        have q1 : w1.cell? ⟨w.heap.size, 1, none⟩ = some (iv x) := ((old_cells hb1).1 _ _ (by simp)).trans (by go_simp)
        go_wp2_with (fail)
        refine (rvalid_any _ _ _).mono ?_
        rintro e w2 ⟨rfl, hb2⟩
        rw [HV.out]
        have q2 := kept_cell hb2 q0
        have q3 := kept_cell hb2 q1
        have b2 := below_via (below_via (below_alloc w _) hb1) hb2
        clear hb1 hb2
        go_wp2_with (fail)
        refine (HR.out _).mono ?_
        rintro e w3 ⟨rfl, hb3⟩
        have q4 := kept_cell hb3 q2
        have q5 := kept_cell hb3 q3
        have s3 : w.heap.size < w3.heap.size := World.block_lt_of_cell? w3 _ q4
        have b3 := below_via b2 hb3
        clear hb3 b2
        go_wp2_with (fail)
        go_ret
        exact ⟨rfl, below_new b3 _⟩
      · have e0 : (e == 0) = false := beq_eq_false_iff_ne.2 h0
        have e0' : (e != 0) = true := bne_iff_ne.2 h0
        rw [hr, if_neg h0] at HR
        clear hv h16 hn hr hd2 hrt h0
        go_enter Try.func4, Try.ntmps4
        go_wp2_with (fail)
        refine (awake_any _).mono ?_
        rintro e w1 ⟨rfl, hb1⟩
        have q0 : w1.cell? ⟨w.heap.size, 0, none⟩ = some (iv t) := ((old_cells hb1).1 _ _ (by simp)).trans (by go_simp)
        have q1 : w1.cell? ⟨w.heap.size, 1, none⟩ = some (iv x) := ((old_cells hb1).1 _ _ (by simp)).trans (by go_simp)
        go_wp2_with (fail)
        refine (rvalid_any _ _ _).mono ?_
        rintro e w2 ⟨rfl, hb2⟩
        rw [HV.out]
        have q2 := kept_cell hb2 q0
        have q3 := kept_cell hb2 q1
        have b2 := below_via (below_via (below_alloc w _) hb1) hb2
        clear hb1 hb2
        go_wp2_with (fail)
        refine (HR.out _).mono ?_
        rintro e w3 ⟨rfl, hb3⟩
        have q4 := kept_cell hb3 q2
        have q5 := kept_cell hb3 q3
        have s3 : w.heap.size < w3.heap.size := World.block_lt_of_cell? w3 _ q4
        have b3 := below_via b2 hb3
        clear hb3 b2
        go_wp2_with (fail)
        go_ret
        exact ⟨rfl, below_new b3 _⟩

set_option maxRecDepth 100000 in
theorem lifted (os : Os) (started : os.Started) (H : Type) (enc : TypeId × Value → H) :
    ReturnsInHanded {} Try.checked os 4 .any (Rows.retryFinalSpec.pre6 enc Try.prog Try.f4 Rows.retryFinalRow.domain false) (Rows.retryFinalSpec.post enc Try.prog Try.f4 false true false false) := by
  refine returnsInHanded_of_change (C := Try.checked) own started (by kernel_rfl) Try.func4
    (ChangeSpec.witness6 (enc := enc) (C := Try.checked) false ⟨#[], #[.agg #[.int .i64 0, .int .i64 0], .int .i64 0], []⟩ 8 (by kernel_rfl) (by kernel_rfl) (by kernel_rfl) (by kernel_rfl)) ?_
  intro W base args ds gs before hval0 hW _ _
  have hval : ∀ (j : Nat) t v, Try.f4.params[j]? = some t → args[j]? = some v → Value.okWide Try.prog W .any base t v := hval0
  have hW' := hW
  obtain ⟨p, q, hA0, hV, rfl, hfz, hnd⟩ := hW
  have hA : DataW.TrodAll enc Try.prog W 0 (fun _ => true) true Try.f4.params.toList args.toList ds p := hA0
  rw [Try.params4] at hA hval
  obtain ⟨v0, vs0, d0, ds0, p0, q0, hargs, rfl, rfl, h0, r0⟩ := trodAll_cons hA
  obtain ⟨v1, vs1, d1, ds1, p1, q1, rfl, rfl, rfl, h1, r1⟩ := trodAll_cons r0
  obtain ⟨rfl, rfl, rfl⟩ := trodAll_nil r1
  obtain rfl : args = #[v0, v1] := by cases args; simp_all
  obtain ⟨t, t', rfl⟩ := open_state (hval 0 23 v0 rfl rfl) h0
  obtain ⟨e, rfl⟩ := open_errno (hval 1 24 v1 rfl rfl) h1
  refine (walk (w := W) t t' e).mono fun e W' ⟨he, hb⟩ => ?_
  subst he
  exact ⟨_, rfl, law_post laidOut (by kernel_rfl) rfl rfl Try.underlying4 (fun ds h => by match ds, h with | [_, _], _ => rfl) hW' hb⟩

theorem proved : Rows.RetryFinalSaid :=
  OpenClaim.holds_of_wide 4 Try.f4 rfl rfl rfl rfl rfl rfl rfl ⟨rfl, rfl, rfl, rfl, rfl⟩ rfl rfl rfl rfl rfl (by kernel_rfl) Try.func4 (by kernel_rfl)
    (of_decide_eq_true (by kernel_rfl)) (by unfold Func.isWrapper; first | (rw [if_pos (by decide +kernel)]; kernel_rfl) | (rw [if_neg (by decide +kernel)]; exact ⟨rfl, rfl⟩))
    (fun os started H enc _ => lifted os started H enc)
end Go.Proofs.Ytagpepnclcjoeaa.LRetryFinal
