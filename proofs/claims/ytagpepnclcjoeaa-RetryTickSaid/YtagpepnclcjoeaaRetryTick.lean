/- RetryTick answers true, whatever the state: Tick and Ready return what the reference returns, and Tick a valid state. No condition. -/
import Derived.Test.YtagpepnclcjoeaaRetryAwake
namespace Go.Proofs.Ytagpepnclcjoeaa.LRetryTick
open Go.RowKit Go.WideShapes Go.ChangeShapes Go.ChangeAt

attribute [local go_sem] cell_setCell_self isSome_setCell
theorem ok_t (t x : Int) : vld (nt t x) (tk (nw t x)) = true := by
  have hv := vld_iff.1 (vld_n t x)
  apply vld_t
  unfold tk
  split <;> omega
set_option maxHeartbeats 2000000 in
theorem walk (t x : Int) (w : World) :
    Calls Try.prog 6 #[sv t x] w fun en w' => en = .returned (.bool true) ∧ Below w.heap.size w w' := by
  have HR := Lib.hid (tick_any t x)
  have HRR := Lib.hid (rtick_any t x)
  have HY := Lib.hid (ready_any t x)
  have HRY := Lib.hid (rready_any t x)
  have ok := ok_t t x
  generalize tk (nw t x) = b at *
  generalize nt t x = a at *
  generalize (nw t x == 0) = d at *
  have OK := Lib.hid ok
  clear ok
  go_enter Try.func6, Try.ntmps6
  go_wp2_with (fail)
  refine (awake_any _).mono ?_
  rintro e w1 ⟨rfl, hb1⟩
  have q0 : w1.cell? ⟨w.heap.size, 0, none⟩ = some (iv t) := ((old_cells hb1).1 _ _ (by simp)).trans (by go_simp)
  have q1 : w1.cell? ⟨w.heap.size, 1, none⟩ = some (iv x) := ((old_cells hb1).1 _ _ (by simp)).trans (by go_simp)
  have b1 := below_via (below_alloc w _) hb1
  clear hb1
  go_wp2_with (fail)
  refine (HR.out _).mono ?_
  rintro e w3 ⟨rfl, hb2⟩
  have q0 := kept_cell hb2 q0
  have q1 := kept_cell hb2 q1
  have b3 := below_via b1 hb2
  clear hb2 b1
  go_wp2_with (fail)
  obtain ⟨X, hX⟩ : ∃ X, X = w3.alloc (.cells #[.int .i64 a, .int .i64 b] 23) := ⟨_, rfl⟩
  have x0 : X.cell? ⟨w.heap.size, 0, none⟩ = some (iv t) := by rw [hX]; exact kept_cell (below_alloc _ _) q0
  have x1 : X.cell? ⟨w.heap.size, 1, none⟩ = some (iv x) := by rw [hX]; exact kept_cell (below_alloc _ _) q1
  have x4 : X.cell? ⟨w3.heap.size, 0, none⟩ = some (iv a) := by rw [hX]; go_simp
  have x5 : X.cell? ⟨w3.heap.size, 1, none⟩ = some (iv b) := by rw [hX]; go_simp
  have bX : Below w.heap.size w X := by rw [hX]; exact below_new b3 _
  rw [← hX]
  have HB := Lib.hid bX
  clear hX bX b3 q0 q1
  go_region_held3 (fun W => W.cell? ⟨w.heap.size, 0, none⟩ = some (iv t) ∧ W.cell? ⟨w.heap.size, 1, none⟩ = some (iv x) ∧ W.cell? ⟨w3.heap.size, 0, none⟩ = some (iv a) ∧ W.cell? ⟨w3.heap.size, 1, none⟩ = some (iv b))
    (first | exact ⟨x0, x1, x4, x5⟩ | exact keep4 (by assumption) (by assumption))
    (first | (go_at_call 17; refine (HRR.out _).mono ?_; rintro e w4 ⟨rfl, hb4⟩) | (go_at_call 14; refine (HY.out _).mono ?_; rintro e w4 ⟨rfl, hb4⟩) | (go_at_call 18; refine (HRY.out _).mono ?_; rintro e w4 ⟨rfl, hb4⟩) | (go_at_call 12; refine (valid_any _ _ _).mono ?_; rintro e w4 ⟨rfl, hb4⟩))
  go_wp2
  go_ret
  exact ⟨ret_b OK.out, below_via (below_via (below_via (below_via HB.out.drew (by assumption)) (by assumption)) (by assumption)) (by assumption)⟩

set_option maxRecDepth 100000 in
theorem lifted (os : Os) (started : os.Started) (H : Type) (enc : TypeId × Value → H) :
    ReturnsInHanded {} Try.checked os 6 .any (Rows.retryTickSpec.pre6 enc Try.prog Try.f6 Rows.retryTickRow.domain false) (Rows.retryTickSpec.post enc Try.prog Try.f6 false true false false) := by
  refine returnsInHanded_of_change (C := Try.checked) own started (by kernel_rfl) Try.func6
    (ChangeSpec.witness6 (enc := enc) (C := Try.checked) false ⟨#[], #[.agg #[.int .i64 0, .int .i64 0]], []⟩ 8 (by kernel_rfl) (by kernel_rfl) (by kernel_rfl) (by kernel_rfl)) ?_
  intro W base args ds gs before hval0 hW _ _
  have hval : ∀ (j : Nat) t v, Try.f6.params[j]? = some t → args[j]? = some v → Value.okWide Try.prog W .any base t v := hval0
  have hW' := hW
  obtain ⟨p, q, hA0, hV, rfl, hfz, hnd⟩ := hW
  have hA : DataW.TrodAll enc Try.prog W 0 (fun _ => true) true Try.f6.params.toList args.toList ds p := hA0
  rw [Try.params6] at hA hval
  obtain ⟨v0, vs0, d0, ds0, p0, q0, hargs, rfl, rfl, h0, r0⟩ := trodAll_cons hA
  obtain ⟨rfl, rfl, rfl⟩ := trodAll_nil r0
  obtain rfl : args = #[v0] := by cases args; simp_all
  obtain ⟨t, t', rfl⟩ := open_state (hval 0 23 v0 rfl rfl) h0
  refine (walk (w := W) t t').mono fun e W' ⟨he, hb⟩ => ?_
  subst he
  exact ⟨_, rfl, law_post laidOut (by kernel_rfl) rfl rfl Try.underlying4 (fun ds h => by match ds, h with | [_], _ => rfl) hW' hb⟩

theorem proved : Rows.RetryTickSaid :=
  OpenClaim.holds_of_wide 6 Try.f6 rfl rfl rfl rfl rfl rfl rfl ⟨rfl, rfl, rfl, rfl, rfl⟩ rfl rfl rfl rfl rfl (by kernel_rfl) Try.func6 (by kernel_rfl)
    (of_decide_eq_true (by kernel_rfl)) (by unfold Func.isWrapper; first | (rw [if_pos (by decide +kernel)]; kernel_rfl) | (rw [if_neg (by decide +kernel)]; exact ⟨rfl, rfl⟩))
    (fun os started H enc _ => lifted os started H enc)
end Go.Proofs.Ytagpepnclcjoeaa.LRetryTick
