/- Sums with multiples of lists, walked. No condition. -/
import Derived.Test.YtlkemgefioiffaaGl
namespace Go.Proofs.Ytlkemgefioiffaa
open Go.RowKit
set_option maxHeartbeats 1000000 in
theorem fused_any (v1 v2 : Value) (dst src : List G) (c : G) (w : World) (hlen : dst.length = src.length) (hsz : dst.length ≤ 1000000) (h1 : Sl w 1 v1 dst.length (bvs dst)) (h2 : Sl w 1 v2 src.length (bvs src)) :
    Calls Try.prog 36 #[v1, v2, bv c] w fun e w' => ∃ v, e = .returned (.tuple #[v, iv 0]) ∧
      w'.ownsRow w.heap.size 5 1 v dst.length (bvs (gfused dst src c)) ∧ Below w.heap.size w w' := by
  obtain ⟨A1, c1, rfl, hc1, hm1, h1⟩ := h1.open_
  obtain ⟨A2, c2, rfl, hc2, hm2, h2⟩ := h2.open_
  obtain ⟨n, hn⟩ : ∃ n, n = dst.length := ⟨_, rfl⟩
  rw [← hlen, ← hn] at h2
  rw [← hn] at h1
  have ne : ((n : Int) != (n : Int)) = false := by simp
  have H : dst.length = n ∧ src.length = n := ⟨hn.symm, by omega⟩
  rw [← hlen, ← hn]
  clear hlen
  have HN := Lib.hid hn
  have HL := Lib.hid H
  rw [← hn] at hsz
  clear hn H
  go_enter Try.func36, Try.ntmps36
  go_wp2_with (at_make; refine wpList_make elB rfl _ _ rfl _ _ n rfl rfl (by omega) (by unfold maxLen; omega) ?_; intro w1 hown hb1)
  have hb1' := hb1
  have HF : Hid ((bvs (gfused dst src c)).length = n) := by show _ = _; rw [bvs, List.length_map, gfused_length _ _ _ (by rw [HL.out.1, HL.out.2]), HL.out.1]
  go_loopw [20] (fun i wr => ∃ k : Nat, k ≤ n ∧ i = iv k ∧ wr.ownsRow w.heap.size 5 1 (.slice (some ⟨w.heap.size, 0, none⟩) n n) n (fillv (bvs (gfused dst src c)) (.int .u8 0) k) ∧ Below w.heap.size w wr) (fun i _ => n - (intOf i).toNat)
  case atStart => exact ⟨0, by omega, rfl, by rw [fillv_zero, HF.out]; rw [show (Value.int .u8 0).cells = #[Value.int .u8 0] from rfl, made_one] at hown; exact hown, hb1⟩
  case round =>
    obtain ⟨k, hk, rfl, hown1, hbel⟩ := hrel
    clear hown hb1 hb1'
    by_cases hlt : k < n
    · obtain ⟨ad1, u1, rfl, hu1, hl1, hx1⟩ := h1.at_ hlt
      obtain ⟨ad2, u2, rfl, hu2, hl2, hx2⟩ := h2.at_ hlt
      have hd : k < dst.length := by rw [HL.out.1]; exact hlt
      have hs : k < src.length := by rw [HL.out.2]; exact hlt
      obtain rfl : bv dst[k] = u1 := by simpa [bvs, List.getElem?_map, List.getElem?_eq_getElem hd] using hu1
      obtain rfl : bv src[k] = u2 := by simpa [bvs, List.getElem?_map, List.getElem?_eq_getElem hs] using hu2
      have hy1 := (hbel.cell (by rw [addBlock]; exact hl1)).trans hx1
      have hy2 := (hbel.cell (by rw [addBlock]; exact hl2)).trans hx2
      have hy3 := hown1.cellAt k (by omega)
      have hy4 := hown1.frozenAt k
      have hfr := fillv_rest (z := .int .u8 0) (Nat.le_refl k) (by rw [HF.out]; exact hlt)
      rw [hfr] at hy3
      have exor := G.add_val dst[k] (c * src[k])
      clear hx1 hx2 h1 h2 hfr hu1 hu2
      go_wp2_with (fail)
      refine wp_region_still_tail 14 fol (by kernel_rfl) ?_
      simp only [List.take_succ_cons, List.take_zero, List.drop_succ_cons, List.drop_zero]
      repeat (first | still_step | still_call (still_of (mul_any _ _ _)))
      refine wpStill_nil ?_
      change wpList _ _ _ _ _ wr.drew
      go_wp2_with (fail)
      go_roundw
      case rel =>
        have hst := hown1.stored k (.int .u8 ((dst[k] + c * src[k]).val : Int))
        refine ⟨k + 1, by omega, by go_num, ?_, ?_⟩
        · rw [← fillv_set _ _ (.int .u8 ((dst[k] + c * src[k]).val : Int)) (by rw [bvs, List.getElem?_map, gfused_get _ _ _ _ hd hs]; rfl)]
          exact hst.1.drew
        · exact (hbel.setCell (Nat.le_refl _) _).drew
      case measure => simp [intOf]; omega
    · obtain rfl : k = n := by omega
      have hfin := hown1
      rw [show k = (bvs (gfused dst src c)).length from HF.out.symm, fillv_all, HF.out] at hfin
      have HO := Lib.hid hfin
      clear hfin hown1
      go_wp2_with (fail)
      go_ret2
      exact ⟨_, rfl, HO.out, hbel⟩
set_option maxHeartbeats 400000 in
theorem fused_bad (v1 v2 : Value) (n m : Nat) (xs ys : List Value) (c : G) (w : World) (hne : n ≠ m) (h1 : Sl w 1 v1 n xs) (h2 : Sl w 1 v2 m ys) :
    Calls Try.prog 36 #[v1, v2, bv c] w fun e w' => e = .returned (.tuple #[.slice none 0 0, iv 1]) ∧ w = w' := by
  obtain ⟨A1, c1, rfl, hc1, hm1, h1⟩ := h1.open_
  obtain ⟨A2, c2, rfl, hc2, hm2, h2⟩ := h2.open_
  have ne : ((n : Int) != (m : Int)) = true := by rw [bne_iff_ne]; omega
  clear h1 h2 hne
  go_enter Try.func36, Try.ntmps36
  go_wp2
  go_ret2
  exact ⟨rfl, rfl⟩
end Go.Proofs.Ytlkemgefioiffaa
