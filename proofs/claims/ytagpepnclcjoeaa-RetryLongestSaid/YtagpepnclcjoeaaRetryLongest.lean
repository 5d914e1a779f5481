/- RetryLongest answers true, whatever the state: Longest returns what the reference returns, and decreases with every tick of a wait. No condition. -/
import Derived.Test.YtagpepnclcjoeaaRetryAwake
namespace Go.Proofs.Ytagpepnclcjoeaa.LRetryLongest
open Go.RowKit Go.WideShapes Go.ChangeShapes Go.ChangeAt

attribute [local go_sem] cell_setCell_self isSome_setCell
theorem n_n (t x : Int) (h : nw t x ≠ 0) : lg (nt t x) (tk (nw t x)) = lg t x - 1 := by
  have hv := vld_iff.1 (vld_n t x)
  have hk : vld (nt t x) (tk (nw t x)) = true := by apply vld_t; unfold tk; split <;> omega
  have := n_of hk
  unfold lg
  rw [this.1, this.2, tk, if_pos (by omega)]
  omega
theorem lg_lo (t x : Int) : 0 ≤ lg t x ∧ lg t x ≤ 1000 := by
  have := nw_lo t x
  have := sm_lo (nt t x).toNat (5 - (nt t x).toNat)
  unfold lg
  omega
set_option maxHeartbeats 2000000 in
theorem walk (t x : Int) (w : World) :
    Calls Try.prog 7 #[sv t x] w fun en w' => en = .returned (.bool true) ∧ Below w.heap.size w w' := by
  have HL := Lib.hid (longest_any t x)
  have HRL := Lib.hid (rlongest_any t x)
  have HY := Lib.hid (ready_any t x)
  have HT := Lib.hid (tick_any t x)
  have HK := Lib.hid (n_n t x)
  have hlo := lg_lo t x
  have HKL := Lib.hid (longest_any (nt t x) (tk (nw t x)))
  generalize lg (nt t x) (tk (nw t x)) = l1 at *
  generalize lg t x = l at *
  generalize nt t x = a at *
  generalize tk (nw t x) = b at *
  by_cases h0 : nw t x = 0
  · have HZ : Hid ((nw t x == 0) = true) := beq_iff_eq.2 h0
    clear h0
    go_enter Try.func7, Try.ntmps7
    go_wp2_with (fail)
    refine (awake_any _).mono ?_
    rintro e w1 ⟨rfl, hb1⟩
    have q0 : w1.cell? ⟨w.heap.size, 0, none⟩ = some (iv t) := ((old_cells hb1).1 _ _ (by simp)).trans (by go_simp)
    have q1 : w1.cell? ⟨w.heap.size, 1, none⟩ = some (iv x) := ((old_cells hb1).1 _ _ (by simp)).trans (by go_simp)
    go_wp2_with (fail)
    refine (HL.out _).mono ?_
    rintro e w2 ⟨rfl, hb2⟩
    have q2 := kept_cell hb2 q0
    have q3 := kept_cell hb2 q1
    go_wp2_with (fail)
    refine (HRL.out _).mono ?_
    rintro e w3 ⟨rfl, hb3⟩
    have q4 := kept_cell hb3 q2
    have q5 := kept_cell hb3 q3
    go_wp2_with (fail)
    refine (HY.out _).mono ?_
    rintro e w4 ⟨rfl, hb4⟩
    rw [HZ.out]
    go_wp2_with (fail)
    go_ret
    exact ⟨rfl, below_via (below_via (below_via (below_via (below_alloc w _) hb1) hb2) hb3) hb4⟩
  · have HZ : Hid ((nw t x == 0) = false) := beq_eq_false_iff_ne.2 h0
    have hk : l1 = l - 1 := HK.out h0
    subst hk
    clear h0 HK
    go_enter Try.func7, Try.ntmps7
    go_wp2_with (fail)
    refine (awake_any _).mono ?_
    rintro e w1 ⟨rfl, hb1⟩
    have q0 : w1.cell? ⟨w.heap.size, 0, none⟩ = some (iv t) := ((old_cells hb1).1 _ _ (by simp)).trans (by go_simp)
    have q1 : w1.cell? ⟨w.heap.size, 1, none⟩ = some (iv x) := ((old_cells hb1).1 _ _ (by simp)).trans (by go_simp)
    go_wp2_with (fail)
    refine (HL.out _).mono ?_
    rintro e w2 ⟨rfl, hb2⟩
    have q2 := kept_cell hb2 q0
    have q3 := kept_cell hb2 q1
    go_wp2_with (fail)
    refine (HRL.out _).mono ?_
    rintro e w3 ⟨rfl, hb3⟩
    have q4 := kept_cell hb3 q2
    have q5 := kept_cell hb3 q3
    go_wp2_with (fail)
    refine (HY.out _).mono ?_
    rintro e w4 ⟨rfl, hb4⟩
    rw [HZ.out]
    have q6 := kept_cell hb4 q4
    have q7 := kept_cell hb4 q5
    go_wp2_with (fail)
    refine (HT.out _).mono ?_
    rintro e w5 ⟨rfl, hb5⟩
    go_wp2_with (fail)
    refine (HKL.out _).mono ?_
    rintro e w6 ⟨rfl, hb6⟩
    go_wp2_with (fail)
    go_ret
    exact ⟨rfl, below_via (below_via (below_via (below_via (below_via (below_via (below_alloc w _) hb1) hb2) hb3) hb4) hb5) hb6⟩

set_option maxRecDepth 100000 in
theorem lifted (os : Os) (started : os.Started) (H : Type) (enc : TypeId × Value → H) :
    ReturnsInHanded {} Try.checked os 7 .any (Rows.retryLongestSpec.pre6 enc Try.prog Try.f7 Rows.retryLongestRow.domain false) (Rows.retryLongestSpec.post enc Try.prog Try.f7 false true false false) := by
  refine returnsInHanded_of_change (C := Try.checked) own started (by kernel_rfl) Try.func7
    (ChangeSpec.witness6 (enc := enc) (C := Try.checked) false ⟨#[], #[.agg #[.int .i64 0, .int .i64 0]], []⟩ 8 (by kernel_rfl) (by kernel_rfl) (by kernel_rfl) (by kernel_rfl)) ?_
  intro W base args ds gs before hval0 hW _ _
  have hval : ∀ (j : Nat) t v, Try.f7.params[j]? = some t → args[j]? = some v → Value.okWide Try.prog W .any base t v := hval0
  have hW' := hW
  obtain ⟨p, q, hA0, hV, rfl, hfz, hnd⟩ := hW
  have hA : DataW.TrodAll enc Try.prog W 0 (fun _ => true) true Try.f7.params.toList args.toList ds p := hA0
  rw [Try.params7] at hA hval
  obtain ⟨v0, vs0, d0, ds0, p0, q0, hargs, rfl, rfl, h0, r0⟩ := trodAll_cons hA
  obtain ⟨rfl, rfl, rfl⟩ := trodAll_nil r0
  obtain rfl : args = #[v0] := by cases args; simp_all
  obtain ⟨t, t', rfl⟩ := open_state (hval 0 23 v0 rfl rfl) h0
  refine (walk (w := W) t t').mono fun e W' ⟨he, hb⟩ => ?_
  subst he
  exact ⟨_, rfl, law_post laidOut (by kernel_rfl) rfl rfl Try.underlying4 (fun ds h => by match ds, h with | [_], _ => rfl) hW' hb⟩

theorem proved : Rows.RetryLongestSaid :=
  OpenClaim.holds_of_wide 7 Try.f7 rfl rfl rfl rfl rfl rfl rfl ⟨rfl, rfl, rfl, rfl, rfl⟩ rfl rfl rfl rfl rfl (by kernel_rfl) Try.func7 (by kernel_rfl)
    (of_decide_eq_true (by kernel_rfl)) (by unfold Func.isWrapper; first | (rw [if_pos (by decide +kernel)]; kernel_rfl) | (rw [if_neg (by decide +kernel)]; exact ⟨rfl, rfl⟩))
    (fun os started H enc _ => lifted os started H enc)
end Go.Proofs.Ytagpepnclcjoeaa.LRetryLongest
