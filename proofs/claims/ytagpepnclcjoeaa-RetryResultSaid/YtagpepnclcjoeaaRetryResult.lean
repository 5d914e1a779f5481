/- RetryResult answers true, whatever the state and the error: Result returns what the reference returns, and a valid state. No condition. -/
import Derived.Test.YtagpepnclcjoeaaRetryAwake
namespace Go.Proofs.Ytagpepnclcjoeaa.LRetryResult
open Go.RowKit Go.WideShapes Go.ChangeShapes Go.ChangeAt

attribute [local go_sem] cell_setCell_self isSome_setCell
theorem ok_r (t x e : Int) : vld (rt t x e) (rx t x e) = true := by
  have hv := vld_n t x
  unfold rt rx
  by_cases h : rd t x e = 2
  · rw [if_pos h, if_pos h]
    have h5 : nt t x < 5 := by
      unfold rd at h
      by_cases h0 : e = 0
      · rw [if_pos h0] at h; omega
      · rw [if_neg h0] at h
        by_cases h1 : e = 16 ∧ nt t x < 5
        · exact h1.2
        · rw [if_neg h1] at h; omega
    have := nt_lo t x
    have := tab_nonneg (nt t x + 1)
    exact vld_t (by omega)
  · rw [if_neg h, if_neg h]; exact hv
set_option maxHeartbeats 2000000 in
theorem walk (t x e : Int) (w : World) :
    Calls Try.prog 3 #[sv t x, iv e] w fun en w' => en = .returned (.bool true) ∧ Below w.heap.size w w' := by
  have HR := Lib.hid (result_any t x e)
  have HRR := Lib.hid (rresult_any t x e)
  have ok := ok_r t x e
  generalize rt t x e = a at *
  generalize rx t x e = b at *
  generalize rd t x e = d at *
  have OK := Lib.hid ok
  clear ok
  go_enter Try.func3, Try.ntmps3
  go_wp2_with (fail)
  refine (awake_any _).mono ?_
  rintro e w1 ⟨rfl, hb1⟩
  have q0 : w1.cell? ⟨w.heap.size, 0, none⟩ = some (iv t) := ((old_cells hb1).1 _ _ (by simp)).trans (by go_simp)
  have q1 : w1.cell? ⟨w.heap.size, 1, none⟩ = some (iv x) := ((old_cells hb1).1 _ _ (by simp)).trans (by go_simp)
  have s1 : w.heap.size < w1.heap.size := World.block_lt_of_cell? w1 _ q0
  have b1 := below_via (below_alloc w _) hb1
  clear hb1
  go_wp2_with (fail)
  refine (HR.out _).mono ?_
  rintro e w2 ⟨rfl, hb2⟩
  have q0 : w2.cell? ⟨w.heap.size, 0, none⟩ = some (iv t) := (hb2.cell s1).trans q0
  have q1 : w2.cell? ⟨w.heap.size, 1, none⟩ = some (iv x) := (hb2.cell s1).trans q1
  have s2 : w.heap.size < w2.heap.size := World.block_lt_of_cell? w2 _ q0
  have b2 := below_via b1 hb2
  clear hb2 b1 s1
  go_wp2_with (fail)
  refine (HRR.out _).mono ?_
  rintro e w3 ⟨rfl, hb3⟩
  have q0 : w3.cell? ⟨w.heap.size, 0, none⟩ = some (iv t) := (hb3.cell (by simp <;> omega)).trans (by go_simp)
  have q1 : w3.cell? ⟨w.heap.size, 1, none⟩ = some (iv x) := (hb3.cell (by simp <;> omega)).trans (by go_simp)
  have q2 : w3.cell? ⟨w2.heap.size, 0, none⟩ = some (iv a) := (hb3.cell (by simp)).trans (by go_simp)
  have q3 : w3.cell? ⟨w2.heap.size, 1, none⟩ = some (iv b) := (hb3.cell (by simp)).trans (by go_simp)
  have s3 : w2.heap.size < w3.heap.size := World.block_lt_of_cell? w3 _ q2
  have b3 := below_via (below_new b2 _) hb3
  clear hb3 b2
  go_wp2_with (fail)
  obtain ⟨X, hX⟩ : ∃ X, X = w3.alloc (.cells #[.int .i64 a, .int .i64 b] 28) := ⟨_, rfl⟩
  have x0 : X.cell? ⟨w.heap.size, 0, none⟩ = some (iv t) := by rw [hX]; exact kept_cell (below_alloc _ _) q0
  have x1 : X.cell? ⟨w.heap.size, 1, none⟩ = some (iv x) := by rw [hX]; exact kept_cell (below_alloc _ _) q1
  have x2 : X.cell? ⟨w2.heap.size, 0, none⟩ = some (iv a) := by rw [hX]; exact kept_cell (below_alloc _ _) q2
  have x3 : X.cell? ⟨w2.heap.size, 1, none⟩ = some (iv b) := by rw [hX]; exact kept_cell (below_alloc _ _) q3
  have x4 : X.cell? ⟨w3.heap.size, 0, none⟩ = some (iv a) := by rw [hX]; go_simp
  have x5 : X.cell? ⟨w3.heap.size, 1, none⟩ = some (iv b) := by rw [hX]; go_simp
  have bX : Below w.heap.size w X := by rw [hX]; exact below_new b3 _
  rw [← hX]
  have HB := Lib.hid bX
  clear hX bX b3 q0 q1 q2 q3
  go_region_held3 (fun W => W.cell? ⟨w.heap.size, 0, none⟩ = some (iv t) ∧ W.cell? ⟨w.heap.size, 1, none⟩ = some (iv x) ∧ W.cell? ⟨w2.heap.size, 0, none⟩ = some (iv a) ∧ W.cell? ⟨w2.heap.size, 1, none⟩ = some (iv b) ∧ W.cell? ⟨w3.heap.size, 0, none⟩ = some (iv a) ∧ W.cell? ⟨w3.heap.size, 1, none⟩ = some (iv b))
    (first | exact ⟨x0, x1, x2, x3, x4, x5⟩ | exact keep6 (by assumption) (by assumption))
    (first | (go_at_call 12; refine (valid_any _ _ _).mono ?_; rintro e w4 ⟨rfl, hb4⟩) | (go_at_call 13; refine (rvalid_any _ _ _).mono ?_; rintro e w4 ⟨rfl, hb4⟩))
  go_wp2
  go_ret
  exact ⟨ret_b OK.out, below_via (below_via (below_via HB.out.drew (by assumption)) (by assumption)) (by assumption)⟩

set_option maxRecDepth 100000 in
theorem lifted (os : Os) (started : os.Started) (H : Type) (enc : TypeId × Value → H) :
    ReturnsInHanded {} Try.checked os 3 .any (Rows.retryResultSpec.pre6 enc Try.prog Try.f3 Rows.retryResultRow.domain false) (Rows.retryResultSpec.post enc Try.prog Try.f3 false true false false) := by
  refine returnsInHanded_of_change (C := Try.checked) own started (by kernel_rfl) Try.func3
    (ChangeSpec.witness6 (enc := enc) (C := Try.checked) false ⟨#[], #[.agg #[.int .i64 0, .int .i64 0], .int .i64 0], []⟩ 8 (by kernel_rfl) (by kernel_rfl) (by kernel_rfl) (by kernel_rfl)) ?_
  intro W base args ds gs before hval0 hW _ _
  have hval : ∀ (j : Nat) t v, Try.f3.params[j]? = some t → args[j]? = some v → Value.okWide Try.prog W .any base t v := hval0
  have hW' := hW
  obtain ⟨p, q, hA0, hV, rfl, hfz, hnd⟩ := hW
  have hA : DataW.TrodAll enc Try.prog W 0 (fun _ => true) true Try.f3.params.toList args.toList ds p := hA0
  rw [Try.params3] at hA hval
  obtain ⟨v0, vs0, d0, ds0, p0, q0, hargs, rfl, rfl, h0, r0⟩ := trodAll_cons hA
  obtain ⟨v1, vs1, d1, ds1, p1, q1, rfl, rfl, rfl, h1, r1⟩ := trodAll_cons r0
  obtain ⟨rfl, rfl, rfl⟩ := trodAll_nil r1
  obtain rfl : args = #[v0, v1] := by cases args; simp_all
  obtain ⟨t, t', rfl⟩ := open_state (hval 0 23 v0 rfl rfl) h0
  obtain ⟨e, rfl⟩ := open_errno (hval 1 24 v1 rfl rfl) h1
  refine (walk (w := W) t t' e).mono fun e W' ⟨he, hb⟩ => ?_
  subst he
  exact ⟨_, rfl, law_post laidOut (by kernel_rfl) rfl rfl Try.underlying4 (fun ds h => by match ds, h with | [_, _], _ => rfl) hW' hb⟩

theorem proved : Rows.RetryResultSaid :=
  OpenClaim.holds_of_wide 3 Try.f3 rfl rfl rfl rfl rfl rfl rfl ⟨rfl, rfl, rfl, rfl, rfl⟩ rfl rfl rfl rfl rfl (by kernel_rfl) Try.func3 (by kernel_rfl)
    (of_decide_eq_true (by kernel_rfl)) (by unfold Func.isWrapper; first | (rw [if_pos (by decide +kernel)]; kernel_rfl) | (rw [if_neg (by decide +kernel)]; exact ⟨rfl, rfl⟩))
    (fun os started H enc _ => lifted os started H enc)
end Go.Proofs.Ytagpepnclcjoeaa.LRetryResult
