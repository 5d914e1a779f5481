/- The reference's sums with multiples of lists, walked. No condition. -/
import Derived.Test.YtlkemgefioiffaaGl
import Derived.Test.YtlkemgefioiffaaGc
namespace Go.Proofs.Ytlkemgefioiffaa
open Go.RowKit
set_option maxHeartbeats 1000000 in
theorem rfused_any (v1 v2 : Value) (dst src : List G) (c : G) (w : World) (hlen : dst.length = src.length) (hsz : dst.length ≤ 1000000) (h1 : Sl w 1 v1 dst.length (bvs dst)) (h2 : Sl w 1 v2 src.length (bvs src)) :
    Calls Try.prog 41 #[v1, v2, bv c] w fun e w' => ∃ v, e = .returned v ∧
      w'.ownsRow w.heap.size 5 1 v dst.length (bvs (gfused dst src c)) ∧ Below w.heap.size w w' := by
  obtain ⟨A1, c1, rfl, hc1, hm1, h1⟩ := h1.open_
  obtain ⟨A2, c2, rfl, hc2, hm2, h2⟩ := h2.open_
  obtain ⟨n, hn⟩ : ∃ n, n = dst.length := ⟨_, rfl⟩
  rw [← hlen, ← hn] at h2
  rw [← hn] at h1
  have H : dst.length = n ∧ src.length = n := ⟨hn.symm, by omega⟩
  rw [← hlen, ← hn]
  clear hlen
  have HL := Lib.hid H
  rw [← hn] at hsz
  clear hn H
  have HF : Hid ((gfused dst src c).length = n) := by show _ = _; rw [gfused_length _ _ _ (by rw [HL.out.1, HL.out.2]), HL.out.1]
  go_enter Try.func41, Try.ntmps41
  go_wp2
  go_loopw [7, 8] (fun v i wr => ∃ k : Nat, k ≤ n ∧ i = iv k ∧ wr.ownsRow w.heap.size 5 1 v k (bvs ((gfused dst src c).take k)) ∧ Below w.heap.size w wr) (fun _ i _ => n - (intOf i).toNat)
  case atStart => exact ⟨0, by omega, rfl, World.ownsRow_nil _ _ _ _, Below.refl _ _⟩
  case round =>
    obtain ⟨k, hk, rfl, hown1, hbel⟩ := hrel
    by_cases hlt : k < n
    · obtain ⟨ad1, u1, rfl, hu1, hl1, hx1⟩ := h1.at_ hlt
      obtain ⟨ad2, u2, rfl, hu2, hl2, hx2⟩ := h2.at_ hlt
      have hd : k < dst.length := by rw [HL.out.1]; exact hlt
      have hs : k < src.length := by rw [HL.out.2]; exact hlt
      obtain rfl : bv dst[k] = u1 := by simpa [bvs, List.getElem?_map, List.getElem?_eq_getElem hd] using hu1
      obtain rfl : bv src[k] = u2 := by simpa [bvs, List.getElem?_map, List.getElem?_eq_getElem hs] using hu2
      have hy1 := (hbel.cell (by rw [addBlock]; exact hl1)).trans hx1
      have hy2 := (hbel.cell (by rw [addBlock]; exact hl2)).trans hx2
      have exor := G.add_val dst[k] (c * src[k])
      have HT := Lib.hid (gfused_take dst src c k hd hs)
      clear hx1 hx2 h1 h2 hu1 hu2
      go_wp2_with (fail)
      have hlt2 : ad1.block < wr.heap.size ∧ ad2.block < wr.heap.size := ⟨Nat.lt_of_lt_of_le hl1 hbel.size, Nat.lt_of_lt_of_le hl2 hbel.size⟩
      go_region_held3 (fun W => W.cell? (ad1.add k) = some (bv dst[k]) ∧ W.cell? (ad2.add k) = some (bv src[k]))
        (first | exact ⟨hy1, hy2⟩ | exact ⟨(World.cell?_alloc_lt _ _ _ (by simp [addBlock]; omega)).trans hy1, (World.cell?_alloc_lt _ _ _ (by simp [addBlock]; omega)).trans hy2⟩ | exact ⟨(hb2.cell (by rw [addBlock]; exact hl1)).trans ((World.cell?_alloc_lt _ _ _ (by simp [addBlock]; omega)).trans hy1), (hb2.cell (by rw [addBlock]; exact hl2)).trans ((World.cell?_alloc_lt _ _ _ (by simp [addBlock]; omega)).trans hy2)⟩)
        (first
          | (go_at_call 42; refine (rmul_any _ _ _).mono ?_; rintro e w' ⟨rfl, rfl⟩)
          | (refine step_append elB rfl _ _ rfl w.heap.size _ k _ rfl ((hown1.drew).alloc _) _ 1 _ rfl (Sl.lit _ _ _ 1 1 rfl (by unfold maxLen; omega)) (one_cell_bv _) (by unfold maxLen; omega) (by omega) (by have := hbel.size; simp; omega) ?_; intro v' w2 hown2 _ _ hb2))
      go_wp2_with (fail)
      have hbw2 : Below w.heap.size w w2 := (hbel.drew.alloc hbel.size _).trans hb2
      have hown3 : w2.ownsRow w.heap.size 5 1 v' (k + 1) (bvs ((gfused dst src c).take (k + 1))) := by rw [HT.out, bvs_append]; exact hown2
      clear hown2 hb2 hown1
      go_roundw
      case rel => exact ⟨k + 1, by omega, by go_num, hown3, hbw2⟩
      case measure => simp [intOf]; omega
    · obtain rfl : k = n := by omega
      have hfin := hown1
      rw [List.take_of_length_le (by rw [HF.out]; omega)] at hfin
      have HO := Lib.hid hfin
      clear hfin hown1
      go_wp2_with (fail)
      go_ret
      exact ⟨_, rfl, HO.out, hbel⟩
end Go.Proofs.Ytlkemgefioiffaa
