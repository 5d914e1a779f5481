/- The walk of the examples of the wear functions; lists of bands that came in, opened. No condition. -/
import Derived.Test.YtgpjaocpdfcamaaWear2
import Derived.Test.YtgpjaocpdfcamaaLaw
import Derived.Test.YtgpjaocpdfcamaaRows
namespace Go.Proofs.Ytgpjaocpdfcamaa
open Go.RowKit Go.WideShapes Go.ChangeShapes Go.ChangeAt Go.Deep
attribute [local go_sem] cell_setCell_self isSome_setCell

theorem own : ownKnob Try.prog.godebug = none := by kernel_rfl
theorem laidOut : laidOutB Try.prog = true := by kernel_rfl
section
variable {H : Type} {enc : TypeId × Value → H} {W : World}
theorem open_band {fuel : Nat} {cs : List Value} {x : DataW H × List MemPlace} (hl : cs.length = 4) (h : DataW.trod enc Try.prog W 0 (fun _ => true) true fuel 32 cs = some x) : ∃ b : Band, cs = b.cells ∧ b.ok := by
  obtain ⟨xs, n, _, _, _, hxl, hg⟩ := DataW.trod_struct Try.underlying32 h
  have cI : Try.prog.cellsOf 3 = 1 := by kernel_rfl
  have cU : Try.prog.cellsOf 28 = 1 := by kernel_rfl
  match cs, hl with
  | [c0, c1, c2, c3], _ =>
    match xs, hxl with
    | [x0, x1, x2, x3], _ =>
      have h0 : DataW.trod enc Try.prog W 0 (fun _ => true) true n 3 (([c0, c1, c2, c3].drop 0).take (Try.prog.cellsOf 3)) = some x0 := hg 0 _ rfl
      have h1 : DataW.trod enc Try.prog W 0 (fun _ => true) true n 3 (([c0, c1, c2, c3].drop 1).take (Try.prog.cellsOf 3)) = some x1 := hg 1 _ rfl
      have h2 : DataW.trod enc Try.prog W 0 (fun _ => true) true n 28 (([c0, c1, c2, c3].drop 2).take (Try.prog.cellsOf 28)) = some x2 := hg 2 _ rfl
      have h3 : DataW.trod enc Try.prog W 0 (fun _ => true) true n 28 (([c0, c1, c2, c3].drop 3).take (Try.prog.cellsOf 28)) = some x3 := hg 3 _ rfl
      rw [cI] at h0 h1
      rw [cU] at h2 h3
      obtain ⟨z0, e0, _, w0⟩ := DataW.trod_int Try.underlying3 h0
      obtain ⟨z1, e1, _, w1⟩ := DataW.trod_int Try.underlying3 h1
      obtain ⟨z2, e2, _, w2⟩ := DataW.trod_int Try.underlying28 h2
      obtain ⟨z3, e3, _, w3⟩ := DataW.trod_int Try.underlying28 h3
      simp at e0 e1 e2 e3
      subst e0; subst e1; subst e2; subst e3
      exact ⟨⟨z0, z1, z2, z3⟩, rfl, bounds_u64 w3⟩
theorem open_bands {b0 : Nat} {v : Value} {d : DataW H} {p : List MemPlace} (hv : Value.okWide Try.prog W .any b0 22 v) (h : DataW.Trod enc Try.prog W 0 (fun _ => true) true 22 v d p) : ∃ l : List Band, Bands W v l := by
  obtain ⟨css, hl, hs, hr⟩ := open_sl_gen (sz := 4) Try.underlying22 (by kernel_rfl) (by omega) hv h
  have key : ∃ l : List Band, css = l.map Band.cells ∧ ∀ b ∈ l, b.ok := by
    clear hs
    induction css with
    | nil => exact ⟨[], rfl, by simp⟩
    | cons c css ih =>
      obtain ⟨l, e, hok⟩ := ih (fun cs h => hl cs (by simp [h])) (fun cs h => hr cs (by simp [h]))
      obtain ⟨f, x, hx⟩ := hr c (by simp)
      obtain ⟨b, eb, hb⟩ := open_band (hl c (by simp)) hx
      exact ⟨b :: l, by rw [e, eb]; rfl, by intro c hc; rcases List.mem_cons.1 hc with rfl | hc; exact hb; exact hok c hc⟩
  obtain ⟨l, rfl, hok⟩ := key
  refine ⟨l, ?_, hok⟩
  rw [List.length_map] at hs
  rw [bcs, List.flatMap_def]
  exact hs
end
def ex : List Band := [⟨0, 0, 0, 3⟩, ⟨1, 0, 0, 0⟩, ⟨0, 0, 0, 2⟩]
theorem ex_ok : ∀ b ∈ ex, b.ok := by
  intro b hb
  simp [ex] at hb
  rcases hb with rfl | rfl | rfl <;> simp [Band.ok]
theorem ex_least : leastV ex = .tuple #[iv 2, iv 0] := by
  have : best ex ex.length = 2 := by simp [ex, best]
  unfold leastV
  rw [this]
  rfl
theorem ex_spread : spreadN ex = 3 := by simp [ex, spreadN, lo, hi, wearAt]
theorem ex_total : totalTo ex ex.length = 5 := by simp [ex, totalTo, wearAt, IntKind.wrap_u64]
set_option maxHeartbeats 1000000 in
theorem awake_any (w : World) :
    Calls Try.prog 8 #[] w fun e w' => e = .returned (.bool true) ∧ Below w.heap.size w w' := by
  go_enter Try.func8, Try.ntmps8
  go_wp2_with (fail)
  have hB : Bands (w.alloc (.cells (bcs ex).toArray 32)) (.slice (some ⟨w.heap.size, 0, none⟩) 3 3) ex := ⟨Sl.lit_ w _ _ 4 3 _ rfl rfl (by unfold maxLen; omega), ex_ok⟩
  refine (least_any _ ex _ hB (by simp [ex])).mono ?_
  rintro e w1 ⟨rfl, hb1⟩
  rw [ex_least]
  have hB1 := hB.below hb1
  have b1 := below_via (below_alloc w _) hb1
  clear hB hb1
  go_wp2_with (fail)
  refine (spread_any _ ex _ hB1 (by simp [ex])).mono ?_
  rintro e w2 ⟨rfl, hb2⟩
  rw [ex_spread]
  have hB2 := hB1.below hb2
  have b2 := below_via b1 hb2
  clear hB1 hb2 b1
  go_wp2_with (fail)
  refine (total_any _ ex _ hB2 (by simp [ex])).mono ?_
  rintro e w3 ⟨rfl, hb3⟩
  rw [ex_total]
  have b3 := below_via b2 hb3
  clear hB2 hb3 b2
  go_wp2_with (fail)
  go_ret
  exact ⟨rfl, b3⟩
end Go.Proofs.Ytgpjaocpdfcamaa
