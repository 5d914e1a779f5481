/- The walks of Result, Tick, Ready and Longest of the retry states. No condition. -/
import Derived.Test.YtagpepnclcjoeaaRetry
namespace Go.Proofs.Ytagpepnclcjoeaa
open Go.RowKit

def rd (t x e : Int) : Int := if e = 0 then 1 else if e = 16 ∧ nt t x < 5 then 2 else 3
def rt (t x e : Int) : Int := if rd t x e = 2 then nt t x + 1 else nt t x
def rx (t x e : Int) : Int := if rd t x e = 2 then tab (nt t x + 1) else nw t x
theorem nt_lo (t x : Int) : 0 ≤ nt t x ∧ nt t x ≤ 5 := by have := vld_iff.1 (vld_n t x); omega
theorem nw_lo (t x : Int) : 0 ≤ nw t x ∧ nw t x ≤ 16 := by have := vld_iff.1 (vld_n t x); have := tab_nonneg (nt t x); omega
theorem rd_done {t x : Int} : rd t x 0 = 1 := rfl
theorem rd_again {t x : Int} (h : nt t x < 5) : rd t x 16 = 2 := by unfold rd; rw [if_neg (by omega), if_pos ⟨rfl, h⟩]
theorem rd_final {t x e : Int} (h0 : e ≠ 0) (h : e ≠ 16 ∨ ¬ nt t x < 5) : rd t x e = 3 := by unfold rd; rw [if_neg h0, if_neg (by rintro ⟨h1, h2⟩; rcases h with h | h; exact h h1; exact h h2)]

set_option maxHeartbeats 1000000 in
theorem result_any (t x e : Int) (w : World) :
    Calls Try.prog 10 #[sv t x, iv e] w fun en w' => en = .returned (.tuple #[sv (rt t x e) (rx t x e), iv (rd t x e)]) ∧ Below w.heap.size w w' := by
  have hn := nt_lo t x
  have hx := nw_lo t x
  have HN := Lib.hid (normal_any t x)
  by_cases h0 : e = 0
  · subst h0
    have HF : Hid (Ending.returned (.tuple #[sv (nt t x) (nw t x), iv 1]) = Ending.returned (.tuple #[sv (rt t x 0) (rx t x 0), iv (rd t x 0)])) := rfl
    generalize nt t x = a at *
    generalize nw t x = b at *
    go_enter Try.func10, Try.ntmps10
    go_wp2_with (go_at_call 20; refine (HN.out _).mono ?_; rintro e w1 ⟨rfl, hb1⟩; obtain ⟨hc1, hf1⟩ := old_cells hb1; have q0 : w1.cell? ⟨w.heap.size, 0, none⟩ = some (iv t) := (hc1 _ _ (by simp <;> omega)).trans (by go_simp); have q1 : w1.cell? ⟨w.heap.size, 1, none⟩ = some (iv x) := (hc1 _ _ (by simp <;> omega)).trans (by go_simp); have q2 : w1.cell? ⟨w.heap.size + 1, 0, none⟩ = some (iv 0) := (hc1 _ _ (by simp <;> omega)).trans (by go_simp); have q3 : w1.cell? ⟨w.heap.size + 1, 1, none⟩ = some (iv 0) := (hc1 _ _ (by simp <;> omega)).trans (by go_simp))
    refine bodyPost_ret (v := .tuple #[sv a b, iv 1]) (by simp [results, Try.results10, go_sem, q0, q1, q2, q3]) rfl ⟨HF.out, ?_⟩
    exact ((((below_via (below_new (below_alloc w _) _) hb1).setCell (by simp) _).setCell (by simp) _).setCell (by simp) _).setCell (by simp) _
  · by_cases h1 : e = 16 ∧ nt t x < 5
    · obtain ⟨rfl, h2⟩ := h1
      have HF : Hid (Ending.returned (.tuple #[sv (nt t x + 1) (tab (nt t x + 1)), iv 2]) = Ending.returned (.tuple #[sv (rt t x 16) (rx t x 16), iv (rd t x 16)])) := by
        show _ = _
        rw [rt, rx, rd_again h2, if_pos rfl, if_pos rfl]
      generalize nt t x = a at *
      generalize nw t x = b at *
      have hr := run_waits (a + 1) (by omega)
      have ew : IntKind.i64.wrap (a + 1) = a + 1 := IntWalk.i64_in _ (by omega)
      go_enter Try.func10, Try.ntmps10
      go_wp2_with (go_at_call 20; refine (HN.out _).mono ?_; rintro e w1 ⟨rfl, hb1⟩; obtain ⟨hc1, hf1⟩ := old_cells hb1; have q0 : w1.cell? ⟨w.heap.size, 0, none⟩ = some (iv t) := (hc1 _ _ (by simp <;> omega)).trans (by go_simp); have q1 : w1.cell? ⟨w.heap.size, 1, none⟩ = some (iv x) := (hc1 _ _ (by simp <;> omega)).trans (by go_simp); have q2 : w1.cell? ⟨w.heap.size + 1, 0, none⟩ = some (iv 0) := (hc1 _ _ (by simp <;> omega)).trans (by go_simp); have q3 : w1.cell? ⟨w.heap.size + 1, 1, none⟩ = some (iv 0) := (hc1 _ _ (by simp <;> omega)).trans (by go_simp))
      obtain ⟨X, hX⟩ : ∃ X, X = (w1.setCell ⟨w.heap.size, 0, none⟩ (iv a)).setCell ⟨w.heap.size, 1, none⟩ (iv b) := ⟨_, rfl⟩
      have x0 : X.cell? ⟨w.heap.size, 0, none⟩ = some (iv a) := by rw [hX]; go_simp
      have x2 : X.cell? ⟨w.heap.size + 1, 0, none⟩ = some (iv 0) := by rw [hX]; go_simp
      have x3 : X.cell? ⟨w.heap.size + 1, 1, none⟩ = some (iv 0) := by rw [hX]; go_simp
      have f2 : ∀ o, X.frozen? ⟨w.heap.size + 1, o, none⟩ = false := fun o => by rw [hX]; go_simp
      have hbX : Below w.heap.size w X := by rw [hX]; exact (((below_via (below_new (below_alloc w _) _) hb1).setCell (by simp) _).setCell (by simp) _)
      have hs : w.heap.size + 1 < X.heap.size := World.block_lt_of_cell? X _ x2
      rw [← hX]
      clear hX q0 q1 q2 q3 hc1 hf1 hb1
      go_region_held3 (fun W => W.cell? ⟨w.heap.size, 0, none⟩ = some (iv a))
        (first | exact x0 | exact (hb2.cell (by simp; omega)).trans x0 | (rw [World.cell?_setCell_other _ _ _ _ (by simp), World.cell?_setCell_other _ _ _ _ (by simp)]; exact (hb2.cell (by simp; omega)).trans x0))
        (first | (go_at_call 21; refine (waits_any _).mono ?_; rintro e w2 ⟨rfl, hb2⟩; obtain ⟨hc2, hf2⟩ := old_cells hb2; have x4 := (hc2 (w.heap.size + 1) 0 hs).trans x2; have x5 := (hc2 (w.heap.size + 1) 1 hs).trans x3; have f4 := (hf2 (w.heap.size + 1) 0 hs).trans (f2 0); have f5 := (hf2 (w.heap.size + 1) 1 hs).trans (f2 1)))
      go_wp2
      refine bodyPost_ret (v := .tuple #[sv (a + 1) (tab (a + 1)), iv 2]) (by simp [results, Try.results10, go_sem, x4, x5]) rfl ⟨HF.out, ?_⟩
      exact ((below_via hbX.drew hb2).setCell (by simp) _).setCell (by simp) _
    · have hd : rd t x e = 3 := rd_final h0 (by by_cases he : e = 16; exact .inr fun h => h1 ⟨he, h⟩; exact .inl he)
      have HF : Hid (Ending.returned (.tuple #[sv (nt t x) (nw t x), iv 3]) = Ending.returned (.tuple #[sv (rt t x e) (rx t x e), iv (rd t x e)])) := by
        show _ = _
        rw [rt, rx, hd, if_neg (by omega), if_neg (by omega)]
      have e0 : (e == 0) = false := beq_eq_false_iff_ne.2 h0
      have H1 : Hid (¬ (e = 16 ∧ nt t x < 5)) := h1
      clear hd h1 h0
      generalize nt t x = a at *
      generalize nw t x = b at *
      by_cases h16 : e = 16
      · have e1 : (e == 16) = true := beq_iff_eq.2 h16
        have d5 : decide (a < 5) = false := by simp; have := H1.out; omega
        clear h16
        go_enter Try.func10, Try.ntmps10
        go_wp2_with (go_at_call 20; refine (HN.out _).mono ?_; rintro e w1 ⟨rfl, hb1⟩; obtain ⟨hc1, hf1⟩ := old_cells hb1; have q0 : w1.cell? ⟨w.heap.size, 0, none⟩ = some (iv t) := (hc1 _ _ (by simp <;> omega)).trans (by go_simp); have q1 : w1.cell? ⟨w.heap.size, 1, none⟩ = some (iv x) := (hc1 _ _ (by simp <;> omega)).trans (by go_simp); have q2 : w1.cell? ⟨w.heap.size + 1, 0, none⟩ = some (iv 0) := (hc1 _ _ (by simp <;> omega)).trans (by go_simp); have q3 : w1.cell? ⟨w.heap.size + 1, 1, none⟩ = some (iv 0) := (hc1 _ _ (by simp <;> omega)).trans (by go_simp))
        refine bodyPost_ret (v := .tuple #[sv a b, iv 3]) (by simp [results, Try.results10, go_sem, q0, q1, q2, q3]) rfl ⟨HF.out, ?_⟩
        exact ((((below_via (below_new (below_alloc w _) _) hb1).setCell (by simp) _).setCell (by simp) _).setCell (by simp) _).setCell (by simp) _
      · have e1 : (e == 16) = false := beq_eq_false_iff_ne.2 h16
        clear h16
        go_enter Try.func10, Try.ntmps10
        go_wp2_with (go_at_call 20; refine (HN.out _).mono ?_; rintro e w1 ⟨rfl, hb1⟩; obtain ⟨hc1, hf1⟩ := old_cells hb1; have q0 : w1.cell? ⟨w.heap.size, 0, none⟩ = some (iv t) := (hc1 _ _ (by simp <;> omega)).trans (by go_simp); have q1 : w1.cell? ⟨w.heap.size, 1, none⟩ = some (iv x) := (hc1 _ _ (by simp <;> omega)).trans (by go_simp); have q2 : w1.cell? ⟨w.heap.size + 1, 0, none⟩ = some (iv 0) := (hc1 _ _ (by simp <;> omega)).trans (by go_simp); have q3 : w1.cell? ⟨w.heap.size + 1, 1, none⟩ = some (iv 0) := (hc1 _ _ (by simp <;> omega)).trans (by go_simp))
        refine bodyPost_ret (v := .tuple #[sv a b, iv 3]) (by simp [results, Try.results10, go_sem, q0, q1, q2, q3]) rfl ⟨HF.out, ?_⟩
        exact ((((below_via (below_new (below_alloc w _) _) hb1).setCell (by simp) _).setCell (by simp) _).setCell (by simp) _).setCell (by simp) _

/-! ### The reference -/
theorem tabs_at (a : Nat) (h : a ≤ 5) : (#[iv 0, iv 1, iv 2, iv 4, iv 8, iv 16] : Array Value)[a]? = some (iv (tab a)) := by
  obtain rfl | rfl | rfl | rfl | rfl | rfl : a = 0 ∨ a = 1 ∨ a = 2 ∨ a = 3 ∨ a = 4 ∨ a = 5 := by omega
  all_goals rfl
theorem tabs5_at (a : Nat) (h : a < 5) : (#[iv 1, iv 2, iv 4, iv 8, iv 16] : Array Value)[a]? = some (iv (tab (a + 1))) := by
  obtain rfl | rfl | rfl | rfl | rfl : a = 0 ∨ a = 1 ∨ a = 2 ∨ a = 3 ∨ a = 4 := by omega
  all_goals rfl
set_option maxHeartbeats 2000000 in
theorem rvalid_any (t x : Int) (w : World) :
    Calls Try.prog 13 #[sv t x] w fun e w' => e = .returned (.bool (vld t x)) ∧ Below w.heap.size w w' := by
  by_cases h : t < 0 ∨ 5 < t ∨ x < 0
  · have HV := Lib.hid (vld_f (t := t) (w := x) (by omega))
    by_cases h0 : t < 0
    · have d0 : decide (t < 0) = true := by simpa using h0
      go_enter Try.func13, Try.ntmps13
      go_wp2
      go_ret
      exact ⟨ret_b HV.out.symm, below_alloc _ _⟩
    · have d0 : decide (t < 0) = false := by simpa using h0
      by_cases h1 : 5 < t
      · have d1 : decide (5 < t) = true := by simpa using h1
        go_enter Try.func13, Try.ntmps13
        go_wp2
        go_ret
        exact ⟨ret_b HV.out.symm, below_alloc _ _⟩
      · have d1 : decide (5 < t) = false := by simpa using h1
        have d2 : decide (x < 0) = true := by simp; omega
        go_enter Try.func13, Try.ntmps13
        go_wp2
        go_ret
        exact ⟨ret_b HV.out.symm, below_alloc _ _⟩
  · obtain ⟨a, rfl⟩ : ∃ a : Nat, t = a := ⟨t.toNat, by omega⟩
    have ha : a ≤ 5 := by omega
    have hx : 0 ≤ x := by omega
    have hd : decide (x ≤ tab a) = vld a x := by unfold vld; apply decide_eq_decide.2; omega
    have HD := Lib.hid hd
    have d0 : decide ((a : Int) < 0) = false := by simp
    have d1 : decide (5 < (a : Int)) = false := by simp; omega
    have d2 : decide (x < 0) = false := by simp; omega
    have q : ((w.alloc (.cells #[iv a, iv x] 28)).alloc (.cells #[iv 0, iv 1, iv 2, iv 4, iv 8, iv 16] 41)).cell? ⟨w.heap.size + 1, a, none⟩ = some (iv (tab a)) := by
      rw [cell_of_row _ _ a _ 41 (0, 0) (by rw [show w.heap.size + 1 = (w.alloc (.cells #[iv a, iv x] 28)).heap.size from by simp]; exact heap_alloc_new _ _)]
      exact tabs_at a ha
    clear hd h
    go_enter Try.func13, Try.ntmps13
    go_wp2
    go_quiet (fail)
    go_wp2
    go_ret
    exact ⟨ret_b HD.out, below_drewN (below_new (below_alloc _ _) _) _⟩
set_option maxHeartbeats 1000000 in
theorem proper_any (t x : Int) (w : World) :
    Calls Try.prog 22 #[sv t x] w fun e w' => e = .returned (sv (nt t x) (nw t x)) ∧ Below w.heap.size w w' := by
  cases h : vld t x
  · have HN := Lib.hid (n_no h)
    have HV := Lib.hid h
    clear h
    go_enter Try.func22, Try.ntmps22
    go_wp2_with (go_at_call 13; refine (rvalid_any _ _ _).mono ?_; rintro e w1 ⟨rfl, hb1⟩; rw [HV.out]; obtain ⟨hc1, hf1⟩ := old_cells hb1; have q0 : w1.cell? ⟨w.heap.size, 0, none⟩ = some (iv t) := (hc1 _ _ (by simp <;> omega)).trans (by go_simp); have q1 : w1.cell? ⟨w.heap.size, 1, none⟩ = some (iv x) := (hc1 _ _ (by simp <;> omega)).trans (by go_simp); have q2 : w1.cell? ⟨w.heap.size + 1, 0, none⟩ = some (iv 0) := (hc1 _ _ (by simp <;> omega)).trans (by go_simp); have q3 : w1.cell? ⟨w.heap.size + 1, 1, none⟩ = some (iv 0) := (hc1 _ _ (by simp <;> omega)).trans (by go_simp))
    refine bodyPost_ret (v := sv 5 0) (by simp [results, Try.results22, go_sem, q0, q1, q2, q3]) rfl ⟨by rw [HN.out.1, HN.out.2], ?_⟩
    exact ((below_via (below_new (below_alloc w _) _) hb1).setCell (by simp) _).setCell (by simp) _
  · have HN := Lib.hid (n_of h)
    have HV := Lib.hid h
    clear h
    go_enter Try.func22, Try.ntmps22
    go_wp2_with (go_at_call 13; refine (rvalid_any _ _ _).mono ?_; rintro e w1 ⟨rfl, hb1⟩; rw [HV.out]; obtain ⟨hc1, hf1⟩ := old_cells hb1; have q0 : w1.cell? ⟨w.heap.size, 0, none⟩ = some (iv t) := (hc1 _ _ (by simp <;> omega)).trans (by go_simp); have q1 : w1.cell? ⟨w.heap.size, 1, none⟩ = some (iv x) := (hc1 _ _ (by simp <;> omega)).trans (by go_simp); have q2 : w1.cell? ⟨w.heap.size + 1, 0, none⟩ = some (iv 0) := (hc1 _ _ (by simp <;> omega)).trans (by go_simp); have q3 : w1.cell? ⟨w.heap.size + 1, 1, none⟩ = some (iv 0) := (hc1 _ _ (by simp <;> omega)).trans (by go_simp))
    refine bodyPost_ret (v := sv t x) (by simp [results, Try.results22, go_sem, q0, q1, q2, q3]) rfl ⟨by rw [HN.out.1, HN.out.2], ?_⟩
    exact ((below_via (below_new (below_alloc w _) _) hb1).setCell (by simp) _).setCell (by simp) _
end Go.Proofs.Ytagpepnclcjoeaa
