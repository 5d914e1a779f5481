/- The walk of the examples, and the arguments of the laws on retries, opened. No condition. -/
import Derived.Test.YtagpepnclcjoeaaRetry4
import Derived.Test.YtagpepnclcjoeaaLaw
import Derived.Test.YtagpepnclcjoeaaRows
import Derived.Lib.SmallJoins
namespace Go.Proofs.Ytagpepnclcjoeaa
open Go.RowKit Go.WideShapes Go.ChangeShapes Go.ChangeAt Go.Joins

theorem own : ownKnob Try.prog.godebug = none := by kernel_rfl
theorem laidOut : laidOutB Try.prog = true := by kernel_rfl
section
variable {H : Type} {enc : TypeId × Value → H} {W : World}
theorem open_state {b0 : Nat} {v : Value} {d : DataW H} {p : List MemPlace} (hv : Value.okWide Try.prog W .any b0 23 v) (h : DataW.Trod enc Try.prog W 0 (fun _ => true) true 23 v d p) : ∃ t x : Int, v = sv t x := by
  obtain ⟨c0, c1, y0, y1, m, rfl, _, _, hy0, hy1⟩ := open_agg2 Try.underlying23 (by kernel_rfl) (by kernel_rfl) hv h
  obtain ⟨x, e0, _, wx⟩ := DataW.trod_int Try.underlying3 hy0
  obtain ⟨y, e1, _, wy⟩ := DataW.trod_int Try.underlying3 hy1
  simp at e0 e1
  subst e0; subst e1
  exact ⟨x, y, rfl⟩
theorem open_errno {b0 : Nat} {v : Value} {d : DataW H} {p : List MemPlace} (hv : Value.okWide Try.prog W .any b0 24 v) (h : DataW.Trod enc Try.prog W 0 (fun _ => true) true 24 v d p) : ∃ n : Int, v = iv n := by
  obtain ⟨n, rfl, _, _, hw⟩ := open_int Try.underlying24 hv h
  exact ⟨n, rfl⟩
end
theorem k1 : rt 0 0 16 = 1 ∧ rx 0 0 16 = 1 ∧ rd 0 0 16 = 2 := by decide
theorem k2 : rd 1 1 14 = 3 := by decide
theorem k3 : lg 3 4 = 28 := by decide
set_option maxHeartbeats 1000000 in
theorem awake_any (w : World) :
    Calls Try.prog 9 #[] w fun e w' => e = .returned (.bool true) ∧ Below w.heap.size w w' := by
  go_enter Try.func9, Try.ntmps9
  go_wp2_with (fail)
  refine (result_any 0 0 16 _).mono ?_
  rintro e w1 ⟨rfl, hb1⟩
  rw [k1.1, k1.2.1, k1.2.2]
  go_wp2_with (fail)
  refine (result_any 1 1 14 _).mono ?_
  rintro e w2 ⟨rfl, hb2⟩
  obtain ⟨hc2, hf2⟩ := old_cells hb2
  have q0 : w2.cell? ⟨w1.heap.size, 0, none⟩ = some (iv 1) := (hc2 _ _ (by simp)).trans (by go_simp)
  have q1 : w2.cell? ⟨w1.heap.size, 1, none⟩ = some (iv 1) := (hc2 _ _ (by simp)).trans (by go_simp)
  have hs : w1.heap.size < w2.heap.size := World.block_lt_of_cell? w2 _ q0
  rw [k2]
  have hbw : Below w.heap.size w w2 := below_via (below_new hb1 _) hb2
  clear hc2 hf2 hb1 hb2
  go_wp2_with (fail)
  refine (longest_any 3 4 _).mono ?_
  rintro e w3 ⟨rfl, hb3⟩
  rw [k3]
  go_wp2_with (fail)
  go_ret
  exact ⟨rfl, below_via (below_new hbw _) hb3⟩
end Go.Proofs.Ytagpepnclcjoeaa
