/- The plain law of ticks. No condition. -/
import Derived.Test.YtcdpffndpaldoaaThr4
namespace Go.Proofs.Ytcdpffndpaldoaa
open Go.RowKit
attribute [local irreducible] Calls
theorem tickV_min {r B l n : Int} (hok : BkOk r B l) (hn : 0 ≤ n) : tickV r B l n = if B ≤ l + n * r then B else l + n * r := by
  obtain ⟨k1, k2, k3, k4, k5, k6⟩ := hok
  unfold tickV
  by_cases h : n ≤ 0 ∨ r = 0
  · rw [if_pos h]
    have : n * r = 0 := by
      rcases h with h | h
      · rw [show n = 0 from by omega, Int.zero_mul]
      · rw [h, Int.mul_zero]
    split <;> omega
  · rw [if_neg h]
    have e : tk r l B ≤ n ↔ B ≤ l + n * r := by
      unfold tk
      have h1 := Int.ediv_lt_iff_lt_mul (a := B - l + r - 1) (b := n + 1) (by omega : 0 < r)
      rw [Int.add_mul, Int.one_mul] at h1
      omega
    by_cases h2 : tk r l B ≤ n
    · rw [if_pos h2, if_pos (e.1 h2)]
    · rw [if_neg h2, if_neg (fun h3 => h2 (e.2 h3))]
theorem tickV_add {r B l n m : Int} (hok : BkOk r B l) (hn : 0 ≤ n) (hm : 0 ≤ m) : tickV r B (tickV r B l n) m = tickV r B l (n + m) := by
  have h1 := tickV_min (tickV_ok hok n) hm
  have h2 := tickV_min hok hn
  have h3 := tickV_min hok (by omega : 0 ≤ n + m)
  rw [Int.add_mul] at h3
  have a1 : 0 ≤ n * r := Int.mul_nonneg hn hok.1
  have a2 : 0 ≤ m * r := Int.mul_nonneg hm hok.1
  rw [h1, h2, h3]
  split <;> split <;> (try split) <;> omega
theorem tickV_ge {r B l n : Int} (hok : BkOk r B l) (hn : 0 ≤ n) : l ≤ tickV r B l n ∧ tickV r B l n ≤ B := by
  have a1 : 0 ≤ n * r := Int.mul_nonneg hn hok.1
  have h6 := hok.2.2.2.2.2
  rw [tickV_min hok hn]
  split <;> omega
end Go.Proofs.Ytcdpffndpaldoaa
