/- The arguments of the laws on the field, opened: bytes, numbers, lists of bytes. No condition. -/
import Derived.Test.YtpbfkdfhfgeidaaLaw
import Derived.Test.YtpbfkdfhfgeidaaGfAwake
import Derived.Test.YtpbfkdfhfgeidaaRows
import Derived.Lib.SmallJoins
namespace Go.Proofs.Ytpbfkdfhfgeidaa
open Go.RowKit Go.WideShapes Go.ChangeShapes Go.ChangeAt

theorem own : ownKnob Try.prog.godebug = none := by kernel_rfl
theorem laidOut : laidOutB Try.prog = true := by kernel_rfl
theorem cellsU8 : Try.prog.cellsOf 5 = 1 := by kernel_rfl
section
variable {H : Type} {enc : TypeId × Value → H} {W : World} {base : Nat}
theorem open_g {b0 : Nat} {v : Value} {d : DataW H} {p : List MemPlace} (hv : Value.okWide Try.prog W .any b0 5 v) (h : DataW.Trod enc Try.prog W 0 (fun _ => true) true 5 v d p) : ∃ x : G, v = bv x := by
  obtain ⟨n, rfl, _, _, hw⟩ := open_int Try.underlying5 hv h
  have := bounds_u8 hw
  exact ⟨⟨n.toNat, by omega⟩, by show Value.int .u8 n = .int .u8 ((n.toNat : Nat) : Int); rw [Int.toNat_of_nonneg this.1]⟩
theorem open_iv {b0 : Nat} {v : Value} {d : DataW H} {p : List MemPlace} (hv : Value.okWide Try.prog W .any b0 3 v) (h : DataW.Trod enc Try.prog W 0 (fun _ => true) true 3 v d p) : ∃ n : Int, v = iv n ∧ -9223372036854775808 ≤ n ∧ n ≤ 9223372036854775807 := by
  obtain ⟨n, rfl, _, _, hw⟩ := open_int Try.underlying3 hv h
  exact ⟨n, rfl, bounds_i64 hw⟩
theorem gOf_toNat {n : Int} (h : 0 ≤ n ∧ n ≤ 255) : bv (gOf n.toNat) = .int .u8 n := by
  show Value.int .u8 (((gOf n.toNat).val : Nat) : Int) = _
  rw [gOf_val (by omega), Int.toNat_of_nonneg h.1]
theorem open_bs {b0 : Nat} {v : Value} {d : DataW H} {p : List MemPlace} (hv : Value.okWide Try.prog W .any b0 28 v) (h : DataW.Trod enc Try.prog W 0 (fun _ => true) true 28 v d p) : ∃ l : List G, Sl W 1 v l.length (bvs l) := by
  obtain ⟨a0, len, cap, rfl⟩ := okWide_slice Try.underlying28 hv
  obtain ⟨fuel, hf⟩ := h
  rcases open_ints Try.underlying28 Try.underlying5 cellsU8 hf with ⟨hcs, _⟩ | ⟨a, len', cap', zs, hcs, _, hl, hm, hz, _, hcell, hwz⟩
  · have : Value.slice a0 len cap = .slice none 0 0 := by simpa [Value.cells] using hcs
    rw [this]
    exact ⟨[], Sl.nil W 1⟩
  · have he : Value.slice a0 len cap = .slice (some a) len' cap' := by simpa [Value.cells] using hcs
    rw [he]
    have hz' : zs.length = cap' := by simpa using hz
    have hlz : len' ≤ zs.length := by omega
    have hlen : ((zs.take len').map fun z => gOf z.toNat).length = len' := by simp; omega
    refine ⟨(zs.take len').map fun z => gOf z.toNat, ?_⟩
    rw [hlen]
    refine ⟨by simp [bvs]; omega, some a, cap', rfl, hl, hm, fun hn => ⟨a, rfl, ?_, ?_⟩⟩
    · have := hcell 0 (by omega)
      have hb := World.block_lt_of_cell? W (a.add 0) this
      rwa [addBlock] at hb
    · intro j u hu
      have hj : j < len' := by
        have := (List.getElem?_eq_some_iff.1 hu).1
        simp [bvs] at this
        omega
      rw [hcell j (by omega)]
      have hzj : zs[j]? = some zs[j] := List.getElem?_eq_getElem (by omega)
      simp only [bvs, List.getElem?_map, List.getElem?_take, hj, if_true, hzj, Option.map_some, Option.some.injEq] at hu
      rw [← hu, gOf_toNat (bounds_u8 (hwz _ (List.getElem_mem (by omega))))]
      simp [List.getD, hzj]
end
end Go.Proofs.Ytpbfkdfhfgeidaa
