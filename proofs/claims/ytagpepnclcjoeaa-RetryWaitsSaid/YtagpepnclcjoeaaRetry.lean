/- The walks of the retry states' functions, of the program and of the reference: Valid, normal, Result, Tick, Ready, Longest. No condition. -/
import Derived.Test.YtagpepnclcjoeaaMem
import Derived.Test.YtagpepnclcjoeaaProg
namespace Go.Proofs.Ytagpepnclcjoeaa
open Go.RowKit

abbrev iv (x : Int) : Value := .int .i64 x
abbrev sv (t w : Int) : Value := .agg #[iv t, iv w]
theorem fol : Try.prog.follows .mixedOrders = true := by kernel_rfl
def tab (t : Int) : Int := if t = 0 then 0 else if t = 1 then 1 else if t = 2 then 2 else if t = 3 then 4 else if t = 4 then 8 else 16
def vld (t w : Int) : Bool := decide (0 ≤ t ∧ t ≤ 5 ∧ 0 ≤ w ∧ w ≤ tab t)
theorem vld_t {t w : Int} (h : 0 ≤ t ∧ t ≤ 5 ∧ 0 ≤ w ∧ w ≤ tab t) : vld t w = true := decide_eq_true h
theorem vld_f {t w : Int} (h : ¬ (0 ≤ t ∧ t ≤ 5 ∧ 0 ≤ w ∧ w ≤ tab t)) : vld t w = false := decide_eq_false h

set_option maxHeartbeats 400000 in
theorem waits_any (w : World) :
    Calls Try.prog 21 #[] w fun e w' => e = .returned (.agg #[iv 0, iv 1, iv 2, iv 4, iv 8, iv 16]) ∧ Below w.heap.size w w' := by
  go_enter Try.func21, Try.ntmps21
  go_wp2
  exact bodyPost_ret (v := .agg #[iv 0, iv 1, iv 2, iv 4, iv 8, iv 16]) (by simp [results, Try.results21, go_sem]) rfl ⟨rfl, below_alloc _ _⟩
theorem ret_b {a b : Bool} (h : a = b) : Ending.returned (.bool a) = .returned (.bool b) := by rw [h]
set_option maxHeartbeats 1000000 in
theorem valid_early (t x : Int) (w : World) (h : t < 0 ∨ 5 < t ∨ x < 0) :
    Calls Try.prog 12 #[sv t x] w fun e w' => e = .returned (.bool (vld t x)) ∧ Below w.heap.size w w' := by
  have HV := Lib.hid (vld_f (t := t) (w := x) (by omega))
  by_cases h0 : t < 0
  · have d0 : decide (0 ≤ t) = false := by simp; omega
    go_enter Try.func12, Try.ntmps12
    go_wp2
    go_quiet (fail)
    go_wp2
    go_ret
    exact ⟨ret_b HV.out.symm, below_drewN (below_alloc _ _) _⟩
  · have d0 : decide (0 ≤ t) = true := by simp; omega
    by_cases h1 : 5 < t
    · have d1 : decide (t ≤ 5) = false := by simp; omega
      go_enter Try.func12, Try.ntmps12
      go_wp2
      go_quiet (fail)
      go_wp2
      go_ret
      exact ⟨ret_b HV.out.symm, below_drewN (below_alloc _ _) _⟩
    · have d1 : decide (t ≤ 5) = true := by simp; omega
      have d2 : decide (0 ≤ x) = false := by simp; omega
      go_enter Try.func12, Try.ntmps12
      go_wp2
      go_quiet (fail)
      go_wp2
      go_ret
      exact ⟨ret_b HV.out.symm, below_drewN (below_alloc _ _) _⟩
theorem run_waits (i : Int) (h : 0 ≤ i ∧ i ≤ 5) (w : World) : (Instr.index 41 (.agg #[iv 0, iv 1, iv 2, iv 4, iv 8, iv 16]) (iv i)).run Try.prog w = .ok (iv (tab i)) w := by
  obtain rfl | rfl | rfl | rfl | rfl | rfl : i = 0 ∨ i = 1 ∨ i = 2 ∨ i = 3 ∨ i = 4 ∨ i = 5 := by omega
  all_goals kernel_rfl
theorem tab_nonneg (t : Int) : 0 ≤ tab t ∧ tab t ≤ 16 := by
  unfold tab
  repeat (split; · omega)
  omega
set_option maxHeartbeats 2000000 in
theorem valid_late (t x : Int) (w : World) (h0 : 0 ≤ t) (h5 : t ≤ 5) (hx : 0 ≤ x) :
    Calls Try.prog 12 #[sv t x] w fun e w' => e = .returned (.bool (vld t x)) ∧ Below w.heap.size w w' := by
  have hr := run_waits t ⟨h0, h5⟩
  have d0 : decide (0 ≤ t) = true := by simp; omega
  have d1 : decide (t ≤ 5) = true := by simp; omega
  have d2 : decide (0 ≤ x) = true := by simp; omega
  have hd : decide (x ≤ tab t) = vld t x := by unfold vld; apply decide_eq_decide.2; omega
  have HD := Lib.hid hd
  clear hd
  have c0 : (w.alloc (.cells #[iv t, iv x] 23)).cell? ⟨w.heap.size, 0, none⟩ = some (iv t) := by go_simp
  have c1 : (w.alloc (.cells #[iv t, iv x] 23)).cell? ⟨w.heap.size, 1, none⟩ = some (iv x) := by go_simp
  have C0 := Lib.hid c0
  have C1 := Lib.hid c1
  clear c0 c1
  go_enter Try.func12, Try.ntmps12
  go_wp2
  go_region_held3 (fun W => W.cell? ⟨w.heap.size, 0, none⟩ = some (iv t) ∧ W.cell? ⟨w.heap.size, 1, none⟩ = some (iv x))
    (first | exact ⟨C0.out, C1.out⟩ | exact ⟨(hb1.cell (by simp)).trans C0.out, (hb1.cell (by simp)).trans C1.out⟩)
    (first | (go_at_call 21; refine (waits_any _).mono ?_; rintro e w1 ⟨rfl, hb1⟩))
  go_wp2
  go_ret
  exact ⟨ret_b HD.out, (below_alloc w (.cells #[iv t, iv x] 23)).trans ((Below.drew (Below.refl _ _)).trans (hb1.mono (by simp)))⟩
theorem valid_any (t x : Int) (w : World) :
    Calls Try.prog 12 #[sv t x] w fun e w' => e = .returned (.bool (vld t x)) ∧ Below w.heap.size w w' := by
  by_cases h : t < 0 ∨ 5 < t ∨ x < 0
  · exact valid_early t x w h
  · exact valid_late t x w (by omega) (by omega) (by omega)
/-- The valid state that a state stands for. -/
def nt (t x : Int) : Int := if vld t x then t else 5
def nw (t x : Int) : Int := if vld t x then x else 0
theorem vld_n (t x : Int) : vld (nt t x) (nw t x) = true := by
  unfold nt nw
  by_cases h : vld t x = true
  · rw [h]; exact h
  · rw [Bool.not_eq_true] at h; rw [h]; rfl
theorem n_of {t x : Int} (h : vld t x = true) : nt t x = t ∧ nw t x = x := by unfold nt nw; rw [h]; exact ⟨rfl, rfl⟩
theorem n_no {t x : Int} (h : vld t x = false) : nt t x = 5 ∧ nw t x = 0 := by unfold nt nw; rw [h]; exact ⟨rfl, rfl⟩
theorem vld_iff {t x : Int} : vld t x = true ↔ (0 ≤ t ∧ t ≤ 5 ∧ 0 ≤ x ∧ x ≤ tab t) := by unfold vld; exact decide_eq_true_iff
set_option maxHeartbeats 1000000 in
theorem normal_any (t x : Int) (w : World) :
    Calls Try.prog 20 #[sv t x] w fun e w' => e = .returned (sv (nt t x) (nw t x)) ∧ Below w.heap.size w w' := by
  cases h : vld t x
  · have HN := Lib.hid (n_no h)
    have HV := Lib.hid h
    clear h
    go_enter Try.func20, Try.ntmps20
    go_wp2_with (go_at_call 12; refine (valid_any _ _ _).mono ?_; rintro e w1 ⟨rfl, hb1⟩; rw [HV.out]; obtain ⟨hc1, hf1⟩ := old_cells hb1)
    refine bodyPost_ret (v := sv 5 0) (by simp [results, Try.results20, go_sem, hc1]) rfl ⟨by rw [HN.out.1, HN.out.2], ?_⟩
    exact ((below_via (below_new (below_alloc w _) _) hb1).setCell (by simp) _).setCell (by simp) _
  · have HN := Lib.hid (n_of h)
    have HV := Lib.hid h
    clear h
    go_enter Try.func20, Try.ntmps20
    go_wp2_with (go_at_call 12; refine (valid_any _ _ _).mono ?_; rintro e w1 ⟨rfl, hb1⟩; rw [HV.out]; obtain ⟨hc1, hf1⟩ := old_cells hb1)
    refine bodyPost_ret (v := sv t x) (by simp [results, Try.results20, go_sem, hc1]) rfl ⟨by rw [HN.out.1, HN.out.2], ?_⟩
    exact ((below_via (below_new (below_alloc w _) _) hb1).setCell (by simp) _).setCell (by simp) _
end Go.Proofs.Ytagpepnclcjoeaa
