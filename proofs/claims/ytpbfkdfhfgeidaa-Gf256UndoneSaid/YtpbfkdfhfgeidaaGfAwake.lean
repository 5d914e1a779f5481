/- The walk of the examples: 'awake' of the laws on the field answers true. No condition. -/
import Derived.Test.YtpbfkdfhfgeidaaGfMem
namespace Go.Proofs.Ytpbfkdfhfgeidaa
open Go.RowKit

theorem k_inv2 : ginv 2 = gOf 142 := by decide +kernel
theorem k_log : glog (gOf 142) = 254 := by decide +kernel
theorem k_142 : gOf 142 ≠ 0 := by decide
theorem k_m1 : (((2 : G) * gOf 128).val : Int) = 29 := by decide +kernel
theorem k_m2 : ((gOf 3 * gOf 7).val : Int) = 9 := by decide +kernel
theorem k_e8 : ((gpow 2 ((8 : Int) % 255).toNat).val : Int) = 29 := by decide +kernel
theorem k_em1 : ((gpow 2 ((-1 : Int) % 255).toNat).val : Int) = 142 := by decide +kernel
theorem k_142v : ((gOf 142).val : Int) = 142 := by decide +kernel
theorem k_fused : gfused [1, 2] [gOf 3, gOf 4] 2 = [gOf 7, gOf 10] := by decide +kernel
set_option maxRecDepth 20000 in
set_option maxHeartbeats 1000000 in
theorem awake_any (w : World) :
    Calls Try.prog 11 #[] w fun e w' => e = .returned (.bool true) ∧ Below w.heap.size w w' := by
  go_enter Try.func11, Try.ntmps11
  go_wp2_with (fail)
  refine (inv_any 2 two_ne_zero _).mono ?_
  rintro e w' ⟨rfl, rfl⟩
  rw [k_inv2]
  go_wp2_with (fail)
  refine (log_any (gOf 142) k_142 _).mono ?_
  rintro e w' ⟨rfl, rfl⟩
  rw [k_log]
  go_wp2_with (fail)
  have s1 : Sl ((w.alloc (.cells #[.int .u8 1, .int .u8 2] 5)).alloc (.cells #[.int .u8 3, .int .u8 4] 5)) 1 (.slice (some ⟨w.heap.size, 0, none⟩) 2 2) 2 (bvs [1, 2]) :=
    (Sl.lit_ w _ _ 1 2 _ rfl rfl (by unfold maxLen; omega)).alloc _
  have s2 : Sl ((w.alloc (.cells #[.int .u8 1, .int .u8 2] 5)).alloc (.cells #[.int .u8 3, .int .u8 4] 5)) 1 (.slice (some ⟨w.heap.size + 1, 0, none⟩) 2 2) 2 (bvs [gOf 3, gOf 4]) :=
    Sl.lit_ (w.alloc _) _ _ 1 2 _ (by simp) rfl (by unfold maxLen; omega)
  refine (fused_any _ _ [1, 2] [gOf 3, gOf 4] 2 _ rfl (by decide) s1 s2).mono ?_
  rintro e w1 ⟨v, rfl, hown, hb1⟩
  have hbw : Below w.heap.size w w1 := (((Below.refl _ _).alloc (Nat.le_refl _) _).alloc (by simp) _).trans (hb1.mono (by simp; omega))
  rw [k_fused] at hown
  have hsl := Sl.of_own hown
  clear hown s1 s2 hb1
  go_wp2_with (fail)
  refine (mul_any 2 (gOf 128) _).mono ?_
  rintro e w' ⟨rfl, rfl⟩
  have e1 := k_m1
  go_wp2_with (fail)
  refine (mul_any (gOf 3) (gOf 7) _).mono ?_
  rintro e w' ⟨rfl, rfl⟩
  have e2 := k_m2
  have e3 := k_142v
  go_wp2_with (fail)
  refine (exp_any 8 (by omega) (by omega) _).mono ?_
  rintro e w' ⟨rfl, rfl⟩
  have e4 := k_e8
  go_wp2_with (fail)
  refine (exp_any (-1) (by omega) (by omega) _).mono ?_
  rintro e w' ⟨rfl, rfl⟩
  have e5 := k_em1
  go_wp2_with (fail)
  refine (same_any _ _ [gOf 7, gOf 10] [gOf 7, gOf 10] _ (hsl.alloc _) (Sl.lit_ w1 _ _ 1 2 _ rfl rfl (by unfold maxLen; omega))).mono ?_
  rintro e w' ⟨rfl, rfl⟩
  have e6 := sameG_self [gOf 7, gOf 10]
  go_wp2_with (fail)
  go_ret
  exact ⟨rfl, hbw.alloc hbw.size _⟩
end Go.Proofs.Ytpbfkdfhfgeidaa
