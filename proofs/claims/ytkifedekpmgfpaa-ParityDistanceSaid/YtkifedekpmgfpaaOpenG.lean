/- Blocks and rows of blocks that came in, opened. No condition. -/
import Derived.Test.YtkifedekpmgfpaaOpenF
import Derived.Test.YtkifedekpmgfpaaBlk
namespace Go.Proofs.Ytkifedekpmgfpaa
open Go.RowKit Go.WideShapes Go.ChangeShapes Go.ChangeAt
theorem own : ownKnob Try.prog.godebug = none := by kernel_rfl
theorem laidOut : laidOutB Try.prog = true := by kernel_rfl
abbrev blkK : List (Option IntKind) := List.replicate 8 (some .u8)
theorem bv_of {n : Int} (h : (Lit.int .u8 n).wf = true) : ∃ g : G, Value.int .u8 n = bv g := by
  have hb := bounds_u8 h
  exact ⟨⟨n.toNat, by omega⟩, by show _ = Value.int .u8 ((n.toNat : Nat) : Int); rw [Int.toNat_of_nonneg hb.1]⟩
theorem Lf.gs : ∀ {m : Nat} {cs : List Value}, Lf (List.replicate m (some .u8)) cs → ∃ l : List G, l.length = m ∧ cs = bvs l
  | 0, _, .nil => ⟨[], rfl, rfl⟩
  | m + 1, _, .int hw h => by
    obtain ⟨g, hg⟩ := bv_of hw
    obtain ⟨l, h1, rfl⟩ := Lf.gs h
    exact ⟨g :: l, by simp [h1], by rw [hg]; rfl⟩
theorem Lf.blk {cs : List Value} (h : Lf blkK cs) : ∃ b : Blk, cs = b.cells := by
  obtain ⟨l, h1, rfl⟩ := h.gs
  exact ⟨⟨l, h1⟩, rfl⟩
theorem Lf.blks {m : Nat} {cs : List Value} (h : Lf (List.replicate m blkK).flatten cs) : ∃ l : List Blk, l.length = m ∧ cs = kvs l := by
  obtain ⟨css, h1, rfl, h2⟩ := h.many
  obtain ⟨l, rfl, e, _⟩ := each_flat (ok := fun _ : Blk => True) (fun c hc => by obtain ⟨b, e⟩ := hc.blk; exact ⟨b, e, trivial⟩) h2
  exact ⟨l, by simpa using h1, e⟩
theorem Lf.iv {ks : List (Option IntKind)} {cs : List Value} (h : Lf (some .i64 :: ks) cs) : ∃ z ds, cs = Go.Proofs.Ytkifedekpmgfpaa.iv z :: ds ∧ -9223372036854775808 ≤ z ∧ z ≤ 9223372036854775807 ∧ Lf ks ds := by
  cases h with
  | int hw h => exact ⟨_, _, rfl, (bounds_i64 hw).1, (bounds_i64 hw).2, h⟩
section
variable {H : Type} {enc : TypeId × Value → H} {W : World}
theorem open_blks {b0 : Nat} {v : Value} {d : DataW H} {p : List MemPlace} (hv : Value.okWide Try.prog W .any b0 30 v) (h : DataW.Trod enc Try.prog W 0 (fun _ => true) true 30 v d p) :
    ∃ l : List Blk, Sl W 8 v l.length (kvs l) := by
  obtain ⟨css, hs, hc⟩ := open_sl_flat (sz := 8) (ks := blkK) Try.underlying30 (by kernel_rfl) (by omega) (by kernel_rfl) hv h
  obtain ⟨l, rfl, e, _⟩ := each_flat (ok := fun _ : Blk => True) (fun c hc => by obtain ⟨b, e⟩ := hc.blk; exact ⟨b, e, trivial⟩) hc
  rw [e, List.length_map] at hs
  exact ⟨l, hs⟩
theorem open_blk {b0 : Nat} {v : Value} {d : DataW H} {p : List MemPlace} (hv : Value.okWide Try.prog W .any b0 37 v) (h : DataW.Trod enc Try.prog W 0 (fun _ => true) true 37 v d p) : ∃ b : Blk, v = kv b := by
  obtain ⟨cs, rfl, hl⟩ := open_agg (ks := blkK) (by kernel_rfl) (by kernel_rfl) hv h
  obtain ⟨b, rfl⟩ := hl.blk
  exact ⟨b, rfl⟩
end
end Go.Proofs.Ytkifedekpmgfpaa
