/- The walks of Longest, of the program and of the reference. No condition. -/
import Derived.Test.YtagpepnclcjoeaaRetry3
namespace Go.Proofs.Ytagpepnclcjoeaa
open Go.RowKit
attribute [local go_sem] cell_setCell_self isSome_setCell

/-- The sum of k waits behind the a-th. -/
def sm (a : Nat) : Nat → Int
  | 0 => 0
  | k + 1 => sm a k + tab (a + 1 + k)
theorem sm_lo (a : Nat) : ∀ k, 0 ≤ sm a k ∧ sm a k ≤ 16 * k
  | 0 => by simp [sm]
  | k + 1 => by
    have := sm_lo a k
    have := tab_nonneg (a + 1 + k)
    simp only [sm]
    omega
/-- What can still be waited. -/
def lg (t x : Int) : Int := nw t x + sm (nt t x).toNat (5 - (nt t x).toNat)
theorem slice_tab (g a : Nat) (h : a < 5) (w : World) : (Instr.sliceAt 41 (.pointer (some ⟨g, 0, none⟩)) (some (iv ((a : Int) + 1))) none none).run Try.prog w = .ok (.slice (some ⟨g, a + 1, none⟩) (5 - a) (5 - a)) w := by
  obtain rfl | rfl | rfl | rfl | rfl : a = 0 ∨ a = 1 ∨ a = 2 ∨ a = 3 ∨ a = 4 := by omega
  all_goals kernel_rfl
theorem slice_tab5 (g : Nat) (w : World) : ∃ o, (Instr.sliceAt 41 (.pointer (some ⟨g, 0, none⟩)) (some (iv ((5 : Nat) + 1))) none none).run Try.prog w = .ok (.slice (some ⟨g, o, none⟩) 0 0) w := ⟨0, by kernel_rfl⟩
set_option maxHeartbeats 2000000 in
theorem longest_any (t x : Int) (w : World) :
    Calls Try.prog 15 #[sv t x] w fun en w' => en = .returned (iv (lg t x)) ∧ Below w.heap.size w w' := by
  have hn := nt_lo t x
  have hx := nw_lo t x
  have HN := Lib.hid (normal_any t x)
  have HL : Hid (lg t x = nw t x + sm (nt t x).toNat (5 - (nt t x).toNat)) := rfl
  obtain ⟨a, ha⟩ : ∃ a : Nat, nt t x = a := ⟨(nt t x).toNat, by omega⟩
  rw [ha] at HN HL hn
  rw [Int.toNat_natCast] at HL
  clear ha
  generalize nw t x = b at *
  by_cases h5 : a < 5
  · go_enter Try.func15, Try.ntmps15
    go_wp2_with (first | (go_at_call 20; refine (HN.out _).mono ?_; rintro e w1 ⟨rfl, hb1⟩; obtain ⟨hc1, hf1⟩ := old_cells hb1; have q0 : w1.cell? ⟨w.heap.size, 0, none⟩ = some (iv t) := (hc1 _ _ (by simp)).trans (by go_simp); have q1 : w1.cell? ⟨w.heap.size, 1, none⟩ = some (iv x) := (hc1 _ _ (by simp)).trans (by go_simp); have hs1 : w.heap.size < w1.heap.size := World.block_lt_of_cell? w1 _ q0) | (go_at_call 21; refine (waits_any _).mono ?_; rintro e w2 ⟨rfl, hb2⟩; obtain ⟨hc2, hf2⟩ := old_cells hb2; have q2 : w2.cell? ⟨w.heap.size, 0, none⟩ = some (iv a) := (hc2 _ _ (by simp <;> omega)).trans (by go_simp); have hs2 : w.heap.size < w2.heap.size := World.block_lt_of_cell? w2 _ q2; have hsl := slice_tab w2.heap.size a h5; clear hc1 hf1 hc2 hf2 q0 q1))
    have hbel : Below w.heap.size w (w2.alloc (.cells #[iv 0, iv 1, iv 2, iv 4, iv 8, iv 16] 41)) := below_new (below_via (((below_via (below_alloc w _) hb1).setCell (by simp) _).setCell (by simp) _) hb2) _
    have hcell : ∀ j, j ≤ 5 → (w2.alloc (.cells #[iv 0, iv 1, iv 2, iv 4, iv 8, iv 16] 41)).cell? ⟨w2.heap.size, j, none⟩ = some (iv (tab j)) := fun j hj => by
      rw [cell_of_row _ _ j _ 41 (0, 0) (heap_alloc_new _ _)]; exact tabs_at j hj
    have HC := Lib.hid hcell
    have HB := Lib.hid hbel
    clear hcell hbel hb1 hb2 hsl
    go_loop [3, 17] (fun n1 i1 => ∃ k : Nat, k ≤ 5 - a ∧ i1 = iv k ∧ n1 = iv (b + sm a k)) (fun _ i1 => 5 - a - (intOf i1).toNat)
    case atStart => exact ⟨0, by omega, rfl, by simp [sm]⟩
    case round =>
      obtain ⟨k, hk, rfl, rfl⟩ := hrel
      have hsm := sm_lo a k
      have htb := tab_nonneg (a + 1 + k)
      by_cases hlt : k < 5 - a
      · have hc := HC.out (a + 1 + k) (by omega)
        go_wp2
        go_round
        case rel => exact ⟨k + 1, by omega, by go_num, by rw [sm]; go_num⟩
        case measure => simp [intOf]; omega
      · have hk2 : Hid (k = 5 - a) := show _ = _ by omega
        go_wp2
        go_ret
        exact ⟨by rw [HL.out, ← hk2.out]; rfl, HB.out⟩
  · obtain rfl : a = 5 := by omega
    go_enter Try.func15, Try.ntmps15
    go_wp2_with (first | (go_at_call 20; refine (HN.out _).mono ?_; rintro e w1 ⟨rfl, hb1⟩; obtain ⟨hc1, hf1⟩ := old_cells hb1; have q0 : w1.cell? ⟨w.heap.size, 0, none⟩ = some (iv t) := (hc1 _ _ (by simp)).trans (by go_simp); have q1 : w1.cell? ⟨w.heap.size, 1, none⟩ = some (iv x) := (hc1 _ _ (by simp)).trans (by go_simp); have hs1 : w.heap.size < w1.heap.size := World.block_lt_of_cell? w1 _ q0) | (go_at_call 21; refine (waits_any _).mono ?_; rintro e w2 ⟨rfl, hb2⟩; obtain ⟨hc2, hf2⟩ := old_cells hb2; have q2 : w2.cell? ⟨w.heap.size, 0, none⟩ = some (iv (5 : Nat)) := (hc2 _ _ (by simp <;> omega)).trans (by go_simp); have hs2 : w.heap.size < w2.heap.size := World.block_lt_of_cell? w2 _ q2; clear hc1 hf1 hc2 hf2 q0 q1))
    have hbel : Below w.heap.size w (w2.alloc (.cells #[iv 0, iv 1, iv 2, iv 4, iv 8, iv 16] 41)) := below_new (below_via (((below_via (below_alloc w _) hb1).setCell (by simp) _).setCell (by simp) _) hb2) _
    have HB := Lib.hid hbel
    clear hbel hb1 hb2
    go_loop [3, 17] (fun n1 i1 => i1 = iv 0 ∧ n1 = iv b) (fun _ _ => 0)
    case atStart => exact ⟨rfl, rfl⟩
    case round =>
      obtain ⟨rfl, rfl⟩ := hrel
      go_wp2
      go_ret
      exact ⟨by rw [HL.out]; simp [sm], HB.out⟩
set_option maxHeartbeats 2000000 in
theorem rlongest_any (t x : Int) (w : World) :
    Calls Try.prog 19 #[sv t x] w fun en w' => en = .returned (iv (lg t x)) ∧ Below w.heap.size w w' := by
  have hn := nt_lo t x
  have hx := nw_lo t x
  have HN := Lib.hid (proper_any t x)
  have HL : Hid (lg t x = nw t x + sm (nt t x).toNat (5 - (nt t x).toNat)) := rfl
  obtain ⟨a, ha⟩ : ∃ a : Nat, nt t x = a := ⟨(nt t x).toNat, by omega⟩
  rw [ha] at HN HL hn
  rw [Int.toNat_natCast] at HL
  clear ha
  generalize nw t x = b at *
  go_enter Try.func19, Try.ntmps19
  go_wp2_with (first | (go_at_call 22; refine (HN.out _).mono ?_; rintro e w1 ⟨rfl, hb1⟩; obtain ⟨hc1, hf1⟩ := old_cells hb1; have q0 : w1.cell? ⟨w.heap.size, 0, none⟩ = some (iv t) := (hc1 _ _ (by simp)).trans (by go_simp); have q1 : w1.cell? ⟨w.heap.size, 1, none⟩ = some (iv x) := (hc1 _ _ (by simp)).trans (by go_simp); have hs1 : w.heap.size < w1.heap.size := World.block_lt_of_cell? w1 _ q0))
  have hbel : Below w.heap.size w (((w1.setCell ⟨w.heap.size, 0, none⟩ (iv a)).setCell ⟨w.heap.size, 1, none⟩ (iv b)).alloc (.cells #[iv 1, iv 2, iv 4, iv 8, iv 16] 43)) := below_new (((below_via (below_alloc w _) hb1).setCell (by simp) _).setCell (by simp) _) _
  have hcell : ∀ j, j < 5 → (((w1.setCell ⟨w.heap.size, 0, none⟩ (iv a)).setCell ⟨w.heap.size, 1, none⟩ (iv b)).alloc (.cells #[iv 1, iv 2, iv 4, iv 8, iv 16] 43)).cell? ⟨w1.heap.size, j, none⟩ = some (iv (tab (j + 1))) := fun j hj => by
    rw [show w1.heap.size = ((w1.setCell ⟨w.heap.size, 0, none⟩ (iv a)).setCell ⟨w.heap.size, 1, none⟩ (iv b)).heap.size from by simp, cell_of_row _ _ j _ 43 (0, 0) (heap_alloc_new _ _)]; exact tabs5_at j hj
  have HC := Lib.hid hcell
  have HB := Lib.hid hbel
  clear hcell hbel hb1 hc1 hf1
  go_loop [3, 5] (fun n1 i1 => ∃ k : Nat, k ≤ 5 - a ∧ i1 = iv ((a + k : Nat) : Int) ∧ n1 = iv (b + sm a k)) (fun _ i1 => 5 - (intOf i1).toNat)
  case atStart => exact ⟨0, by omega, by simp, by simp [sm]⟩
  case round =>
    obtain ⟨k, hk, rfl, rfl⟩ := hrel
    have hsm := sm_lo a k
    have htb := tab_nonneg (a + 1 + k)
    by_cases hlt : k < 5 - a
    · have hc := HC.out (a + k) (by omega)
      rw [show ((a + k : Nat) : Int) + 1 = (a : Int) + 1 + k from by omega] at hc
      go_wp2
      go_round
      case rel => exact ⟨k + 1, by omega, by go_num, by rw [sm]; go_num⟩
      case measure => simp [intOf]; omega
    · have hk2 : Hid (k = 5 - a) := show _ = _ by omega
      go_wp2
      go_ret
      exact ⟨by rw [HL.out, ← hk2.out]; rfl, HB.out⟩
end Go.Proofs.Ytagpepnclcjoeaa
