/- The walks of the reference's Result, and of Tick and Ready of both. No condition. -/
import Derived.Test.YtagpepnclcjoeaaRetry2
namespace Go.Proofs.Ytagpepnclcjoeaa
open Go.RowKit
attribute [local go_sem] cell_setCell_self isSome_setCell

set_option maxHeartbeats 2000000 in
theorem rresult_any (t x e : Int) (w : World) :
    Calls Try.prog 11 #[sv t x, iv e] w fun en w' => en = .returned (.tuple #[sv (rt t x e) (rx t x e), iv (rd t x e)]) ∧ Below w.heap.size w w' := by
  have hn := nt_lo t x
  have hx := nw_lo t x
  have HN := Lib.hid (proper_any t x)
  by_cases h0 : e = 0
  · subst h0
    have HF : Hid (Ending.returned (.tuple #[sv (nt t x) (nw t x), iv 1]) = Ending.returned (.tuple #[sv (rt t x 0) (rx t x 0), iv (rd t x 0)])) := rfl
    generalize nt t x = a at *
    generalize nw t x = b at *
    go_enter Try.func11, Try.ntmps11
    go_wp2_with (go_at_call 22; refine (HN.out _).mono ?_; rintro e w1 ⟨rfl, hb1⟩; obtain ⟨hc1, hf1⟩ := old_cells hb1; have q0 : w1.cell? ⟨w.heap.size, 0, none⟩ = some (iv t) := (hc1 _ _ (by simp <;> omega)).trans (by go_simp); have q1 : w1.cell? ⟨w.heap.size, 1, none⟩ = some (iv x) := (hc1 _ _ (by simp <;> omega)).trans (by go_simp); have q2 : w1.cell? ⟨w.heap.size + 1, 0, none⟩ = some (iv 0) := (hc1 _ _ (by simp <;> omega)).trans (by go_simp); have q3 : w1.cell? ⟨w.heap.size + 1, 1, none⟩ = some (iv 0) := (hc1 _ _ (by simp <;> omega)).trans (by go_simp))
    refine bodyPost_ret (v := .tuple #[sv a b, iv 1]) (by simp [results, Try.results11, go_sem, q0, q1, q2, q3]) rfl ⟨HF.out, ?_⟩
    exact ((((below_via (below_new (below_alloc w _) _) hb1).setCell (by simp) _).setCell (by simp) _).setCell (by simp) _).setCell (by simp) _
  · by_cases h1 : e = 16 ∧ nt t x < 5
    · obtain ⟨rfl, h2⟩ := h1
      have HF : Hid (Ending.returned (.tuple #[sv (nt t x + 1) (tab (nt t x + 1)), iv 2]) = Ending.returned (.tuple #[sv (rt t x 16) (rx t x 16), iv (rd t x 16)])) := by
        show _ = _
        rw [rt, rx, rd_again h2, if_pos rfl, if_pos rfl]
      obtain ⟨a, ha⟩ : ∃ a : Nat, nt t x = a := ⟨(nt t x).toNat, by omega⟩
      rw [ha] at HF HN h2
      clear hn ha
      generalize nw t x = b at *
      have e5 : ((a : Int) == 5) = false := beq_eq_false_iff_ne.2 (by omega)
      have ew : IntKind.i64.wrap ((a : Int) + 1) = (a : Int) + 1 := IntWalk.i64_in _ (by omega)
      go_enter Try.func11, Try.ntmps11
      go_wp2_with (go_at_call 22; refine (HN.out _).mono ?_; rintro e w1 ⟨rfl, hb1⟩; obtain ⟨hc1, hf1⟩ := old_cells hb1; have q0 : w1.cell? ⟨w.heap.size, 0, none⟩ = some (iv t) := (hc1 _ _ (by simp <;> omega)).trans (by go_simp); have q1 : w1.cell? ⟨w.heap.size, 1, none⟩ = some (iv x) := (hc1 _ _ (by simp <;> omega)).trans (by go_simp); have q2 : w1.cell? ⟨w.heap.size + 1, 0, none⟩ = some (iv 0) := (hc1 _ _ (by simp <;> omega)).trans (by go_simp); have q3 : w1.cell? ⟨w.heap.size + 1, 1, none⟩ = some (iv 0) := (hc1 _ _ (by simp <;> omega)).trans (by go_simp))
      obtain ⟨Y, hY⟩ : ∃ Y, Y = (w1.setCell ⟨w.heap.size, 0, none⟩ (iv a)).setCell ⟨w.heap.size, 1, none⟩ (iv b) := ⟨_, rfl⟩
      have hsY : Y.heap.size = w1.heap.size := by rw [hY]; simp
      have hw1 : w.heap.size + 1 < w1.heap.size := World.block_lt_of_cell? w1 _ q2
      have y0 : Y.cell? ⟨w.heap.size, 0, none⟩ = some (iv a) := by rw [hY]; go_simp
      have y2 : Y.cell? ⟨w.heap.size + 1, 0, none⟩ = some (iv 0) := by rw [hY]; go_simp
      have y3 : Y.cell? ⟨w.heap.size + 1, 1, none⟩ = some (iv 0) := by rw [hY]; go_simp
      have yf : ∀ o, Y.frozen? ⟨w.heap.size + 1, o, none⟩ = false := fun o => by rw [hY]; go_simp
      obtain ⟨X, hX⟩ : ∃ X, X = Y.alloc (.cells #[iv 1, iv 2, iv 4, iv 8, iv 16] 43) := ⟨_, rfl⟩
      have x0 : X.cell? ⟨w.heap.size, 0, none⟩ = some (iv a) := by rw [hX]; exact (World.cell?_alloc_lt _ _ _ (World.block_lt_of_cell? Y _ y0)).trans y0
      have x2 : X.cell? ⟨w.heap.size + 1, 0, none⟩ = some (iv 0) := by rw [hX]; exact (World.cell?_alloc_lt _ _ _ (World.block_lt_of_cell? Y _ y2)).trans y2
      have x3 : X.cell? ⟨w.heap.size + 1, 1, none⟩ = some (iv 0) := by rw [hX]; exact (World.cell?_alloc_lt _ _ _ (World.block_lt_of_cell? Y _ y3)).trans y3
      have f2 : ∀ o, X.frozen? ⟨w.heap.size + 1, o, none⟩ = false := fun o => by rw [hX, (below_alloc Y _).frozen (p := ⟨w.heap.size + 1, o, none⟩) (show w.heap.size + 1 < Y.heap.size from World.block_lt_of_cell? Y _ y2)]; exact yf o
      have f4 := f2 0
      have f5 := f2 1
      have x4 : X.cell? ⟨w1.heap.size, a, none⟩ = some (iv (tab (a + 1))) := by
        rw [hX, ← hsY, cell_of_row _ _ a _ 43 (0, 0) (heap_alloc_new _ _)]
        exact tabs5_at a (by omega)
      have hbX : Below w.heap.size w X := by rw [hX, hY]; exact below_new (((below_via (below_new (below_alloc w _) _) hb1).setCell (by simp) _).setCell (by simp) _) _
      rw [← hY, ← hX]
      clear hX hY hsY q0 q1 q2 q3 hc1 hf1 hb1 f2 y0 y2 y3 yf
      go_region_held3 (fun W => W.cell? ⟨w.heap.size, 0, none⟩ = some (iv a) ∧ W.cell? ⟨w1.heap.size, a, none⟩ = some (iv (tab (a + 1))))
        (first | exact ⟨x0, x4⟩ | exact ⟨(World.cell?_setCell_other _ _ _ _ (by simp)).trans ((World.cell?_setCell_other _ _ _ _ (by simp)).trans x0), (World.cell?_setCell_other _ _ _ _ (by simp <;> omega)).trans ((World.cell?_setCell_other _ _ _ _ (by simp <;> omega)).trans x4)⟩)
        (first | fail)
      go_wp2
      refine bodyPost_ret (v := .tuple #[sv (a + 1) (tab (a + 1)), iv 2]) (by simp [results, Try.results11, go_sem, x2, x3]) rfl ⟨HF.out, ?_⟩
      exact (hbX.drew.setCell (by simp) _).setCell (by simp) _
    · have hd : rd t x e = 3 := rd_final h0 (by by_cases he : e = 16; exact .inr fun h => h1 ⟨he, h⟩; exact .inl he)
      have HF : Hid (Ending.returned (.tuple #[sv (nt t x) (nw t x), iv 3]) = Ending.returned (.tuple #[sv (rt t x e) (rx t x e), iv (rd t x e)])) := by
        show _ = _
        rw [rt, rx, hd, if_neg (by omega), if_neg (by omega)]
      have e0 : (e == 0) = false := beq_eq_false_iff_ne.2 h0
      have H1 : Hid (¬ (e = 16 ∧ nt t x < 5)) := h1
      clear hd h1 h0
      generalize nt t x = a at *
      generalize nw t x = b at *
      by_cases h16 : e = 16
      · have e1 : (e != 16) = false := by rw [h16]; rfl
        have e5 : (a == 5) = true := beq_iff_eq.2 (by have := H1.out; omega)
        clear h16
        go_enter Try.func11, Try.ntmps11
        go_wp2_with (go_at_call 22; refine (HN.out _).mono ?_; rintro e w1 ⟨rfl, hb1⟩; obtain ⟨hc1, hf1⟩ := old_cells hb1; have q0 : w1.cell? ⟨w.heap.size, 0, none⟩ = some (iv t) := (hc1 _ _ (by simp <;> omega)).trans (by go_simp); have q1 : w1.cell? ⟨w.heap.size, 1, none⟩ = some (iv x) := (hc1 _ _ (by simp <;> omega)).trans (by go_simp); have q2 : w1.cell? ⟨w.heap.size + 1, 0, none⟩ = some (iv 0) := (hc1 _ _ (by simp <;> omega)).trans (by go_simp); have q3 : w1.cell? ⟨w.heap.size + 1, 1, none⟩ = some (iv 0) := (hc1 _ _ (by simp <;> omega)).trans (by go_simp))
        refine bodyPost_ret (v := .tuple #[sv a b, iv 3]) (by simp [results, Try.results11, go_sem, q0, q1, q2, q3]) rfl ⟨HF.out, ?_⟩
        exact ((((below_via (below_new (below_alloc w _) _) hb1).setCell (by simp) _).setCell (by simp) _).setCell (by simp) _).setCell (by simp) _
      · have e1 : (e != 16) = true := bne_iff_ne.2 h16
        clear h16
        go_enter Try.func11, Try.ntmps11
        go_wp2_with (go_at_call 22; refine (HN.out _).mono ?_; rintro e w1 ⟨rfl, hb1⟩; obtain ⟨hc1, hf1⟩ := old_cells hb1; have q0 : w1.cell? ⟨w.heap.size, 0, none⟩ = some (iv t) := (hc1 _ _ (by simp <;> omega)).trans (by go_simp); have q1 : w1.cell? ⟨w.heap.size, 1, none⟩ = some (iv x) := (hc1 _ _ (by simp <;> omega)).trans (by go_simp); have q2 : w1.cell? ⟨w.heap.size + 1, 0, none⟩ = some (iv 0) := (hc1 _ _ (by simp <;> omega)).trans (by go_simp); have q3 : w1.cell? ⟨w.heap.size + 1, 1, none⟩ = some (iv 0) := (hc1 _ _ (by simp <;> omega)).trans (by go_simp))
        refine bodyPost_ret (v := .tuple #[sv a b, iv 3]) (by simp [results, Try.results11, go_sem, q0, q1, q2, q3]) rfl ⟨HF.out, ?_⟩
        exact ((((below_via (below_new (below_alloc w _) _) hb1).setCell (by simp) _).setCell (by simp) _).setCell (by simp) _).setCell (by simp) _

/-- The wait one tick later. -/
def tk (x : Int) : Int := if 0 < x then x - 1 else x
set_option maxHeartbeats 1000000 in
theorem tick_any (t x : Int) (w : World) :
    Calls Try.prog 16 #[sv t x] w fun en w' => en = .returned (sv (nt t x) (tk (nw t x))) ∧ Below w.heap.size w w' := by
  have hn := nt_lo t x
  have hx := nw_lo t x
  have HN := Lib.hid (normal_any t x)
  generalize nt t x = a at *
  generalize nw t x = b at *
  by_cases h : b ≤ 1
  · have em : Hid (0 = tk b) := by show _ = _; unfold tk; split <;> omega
    go_enter Try.func16, Try.ntmps16
    go_wp2_with (go_at_call 20; refine (HN.out _).mono ?_; rintro e w1 ⟨rfl, hb1⟩; obtain ⟨hc1, hf1⟩ := old_cells hb1; have q0 : w1.cell? ⟨w.heap.size, 0, none⟩ = some (iv t) := (hc1 _ _ (by simp <;> omega)).trans (by go_simp); have q1 : w1.cell? ⟨w.heap.size, 1, none⟩ = some (iv x) := (hc1 _ _ (by simp <;> omega)).trans (by go_simp); have q2 : w1.cell? ⟨w.heap.size + 1, 0, none⟩ = some (iv 0) := (hc1 _ _ (by simp <;> omega)).trans (by go_simp); have q3 : w1.cell? ⟨w.heap.size + 1, 1, none⟩ = some (iv 0) := (hc1 _ _ (by simp <;> omega)).trans (by go_simp))
    refine bodyPost_ret (v := sv a 0) (by simp [results, Try.results16, go_sem, q0, q1, q2, q3]) rfl ⟨by rw [← em.out], ?_⟩
    exact (((((below_via (below_new (below_alloc w _) _) hb1).setCell (by simp) _).setCell (by simp) _).setCell (by simp) _).setCell (by simp) _).setCell (by simp) _
  · have em : Hid (b - 1 = tk b) := by show _ = _; unfold tk; rw [if_pos (by omega)]
    have hgt : 1 < b := by omega
    go_enter Try.func16, Try.ntmps16
    go_wp2_with (go_at_call 20; refine (HN.out _).mono ?_; rintro e w1 ⟨rfl, hb1⟩; obtain ⟨hc1, hf1⟩ := old_cells hb1; have q0 : w1.cell? ⟨w.heap.size, 0, none⟩ = some (iv t) := (hc1 _ _ (by simp <;> omega)).trans (by go_simp); have q1 : w1.cell? ⟨w.heap.size, 1, none⟩ = some (iv x) := (hc1 _ _ (by simp <;> omega)).trans (by go_simp); have q2 : w1.cell? ⟨w.heap.size + 1, 0, none⟩ = some (iv 0) := (hc1 _ _ (by simp <;> omega)).trans (by go_simp); have q3 : w1.cell? ⟨w.heap.size + 1, 1, none⟩ = some (iv 0) := (hc1 _ _ (by simp <;> omega)).trans (by go_simp))
    refine bodyPost_ret (v := sv a (b - 1)) (by simp [results, Try.results16, go_sem, q0, q1, q2, q3]) rfl ⟨by rw [em.out], ?_⟩
    exact (((((below_via (below_new (below_alloc w _) _) hb1).setCell (by simp) _).setCell (by simp) _).setCell (by simp) _).setCell (by simp) _).setCell (by simp) _
set_option maxHeartbeats 1000000 in
theorem rtick_any (t x : Int) (w : World) :
    Calls Try.prog 17 #[sv t x] w fun en w' => en = .returned (sv (nt t x) (tk (nw t x))) ∧ Below w.heap.size w w' := by
  have hn := nt_lo t x
  have hx := nw_lo t x
  have HN := Lib.hid (proper_any t x)
  generalize nt t x = a at *
  generalize nw t x = b at *
  by_cases h : 0 < b
  · have em : Hid (b - 1 = tk b) := by show _ = _; unfold tk; rw [if_pos h]
    go_enter Try.func17, Try.ntmps17
    go_wp2_with (go_at_call 22; refine (HN.out _).mono ?_; rintro e w1 ⟨rfl, hb1⟩; obtain ⟨hc1, hf1⟩ := old_cells hb1; have q0 : w1.cell? ⟨w.heap.size, 0, none⟩ = some (iv t) := (hc1 _ _ (by simp <;> omega)).trans (by go_simp); have q1 : w1.cell? ⟨w.heap.size, 1, none⟩ = some (iv x) := (hc1 _ _ (by simp <;> omega)).trans (by go_simp); have q2 : w1.cell? ⟨w.heap.size + 1, 0, none⟩ = some (iv 0) := (hc1 _ _ (by simp <;> omega)).trans (by go_simp); have q3 : w1.cell? ⟨w.heap.size + 1, 1, none⟩ = some (iv 0) := (hc1 _ _ (by simp <;> omega)).trans (by go_simp))
    refine bodyPost_ret (v := sv a (b - 1)) (by simp [results, Try.results17, go_sem, q0, q1, q2, q3]) rfl ⟨by rw [em.out], ?_⟩
    exact (((((below_via (below_new (below_alloc w _) _) hb1).setCell (by simp) _).setCell (by simp) _).setCell (by simp) _).setCell (by simp) _).setCell (by simp) _
  · have em : Hid (b = tk b) := by show _ = _; unfold tk; rw [if_neg h]
    go_enter Try.func17, Try.ntmps17
    go_wp2_with (go_at_call 22; refine (HN.out _).mono ?_; rintro e w1 ⟨rfl, hb1⟩; obtain ⟨hc1, hf1⟩ := old_cells hb1; have q0 : w1.cell? ⟨w.heap.size, 0, none⟩ = some (iv t) := (hc1 _ _ (by simp <;> omega)).trans (by go_simp); have q1 : w1.cell? ⟨w.heap.size, 1, none⟩ = some (iv x) := (hc1 _ _ (by simp <;> omega)).trans (by go_simp); have q2 : w1.cell? ⟨w.heap.size + 1, 0, none⟩ = some (iv 0) := (hc1 _ _ (by simp <;> omega)).trans (by go_simp); have q3 : w1.cell? ⟨w.heap.size + 1, 1, none⟩ = some (iv 0) := (hc1 _ _ (by simp <;> omega)).trans (by go_simp))
    refine bodyPost_ret (v := sv a b) (by simp [results, Try.results17, go_sem, q0, q1, q2, q3]) rfl ⟨by rw [← em.out], ?_⟩
    exact ((((below_via (below_new (below_alloc w _) _) hb1).setCell (by simp) _).setCell (by simp) _).setCell (by simp) _).setCell (by simp) _
set_option maxHeartbeats 1000000 in
theorem ready_any (t x : Int) (w : World) :
    Calls Try.prog 14 #[sv t x] w fun en w' => en = .returned (.bool (nw t x == 0)) ∧ Below w.heap.size w w' := by
  have HN := Lib.hid (normal_any t x)
  generalize nt t x = a at *
  generalize nw t x = b at *
  have hfl : ∀ w, (Instr.field 23 (sv a b) 1).run Try.prog w = .ok (iv b) w := fun _ => by kernel_rfl
  go_enter Try.func14, Try.ntmps14
  go_wp2_with (go_at_call 20; refine (HN.out _).mono ?_; rintro e w1 ⟨rfl, hb1⟩)
  go_ret
  exact ⟨rfl, below_via (below_alloc w _) hb1⟩
set_option maxHeartbeats 1000000 in
theorem rready_any (t x : Int) (w : World) :
    Calls Try.prog 18 #[sv t x] w fun en w' => en = .returned (.bool (nw t x == 0)) ∧ Below w.heap.size w w' := by
  have HN := Lib.hid (proper_any t x)
  generalize nt t x = a at *
  generalize nw t x = b at *
  have hfl : ∀ w, (Instr.field 28 (sv a b) 1).run Try.prog w = .ok (iv b) w := fun _ => by kernel_rfl
  go_enter Try.func18, Try.ntmps18
  go_wp2_with (go_at_call 22; refine (HN.out _).mono ?_; rintro e w1 ⟨rfl, hb1⟩)
  go_ret
  exact ⟨rfl, below_via (below_alloc w _) hb1⟩
end Go.Proofs.Ytagpepnclcjoeaa
