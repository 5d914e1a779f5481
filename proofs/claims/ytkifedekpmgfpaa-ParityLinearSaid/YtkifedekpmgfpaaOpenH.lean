/- Writes of slots, changes of pieces, thirteen blocks that came in, opened. No condition. -/
import Derived.Test.YtkifedekpmgfpaaOpenG
import Derived.Test.YtkifedekpmgfpaaCode
namespace Go.Proofs.Ytkifedekpmgfpaa
open Go.RowKit Go.WideShapes Go.ChangeShapes Go.ChangeAt
/-- A number and a block. -/
structure Swr where
  s : Int
  b : Blk
instance : Inhabited Swr := ⟨⟨0, 0⟩⟩
def Swr.cells (x : Swr) : List Value := iv x.s :: x.b.cells
def Swr.ok (x : Swr) : Prop := -9223372036854775808 ≤ x.s ∧ x.s ≤ 9223372036854775807
theorem swr9 {l : List Swr} : ∀ x ∈ l, (Swr.cells x).length = 9 := fun x _ => by simp [Swr.cells, Blk.len]
theorem swr_s {l : List Swr} {k i : Nat} (hk : k < l.length) (hi : i = k * 9) : (l.flatMap Swr.cells)[i]? = some (iv (nth l k).s) := by
  rw [hi, ← Nat.add_zero (k * 9), flat_get swr9 hk (by omega)]; rfl
theorem swr_b {l : List Swr} {k i j : Nat} {u : Value} (hk : k < l.length) (hi : i = k * 9 + 1 + j) (h : (nth l k).b.cells[j]? = some u) : (l.flatMap Swr.cells)[i]? = some u := by
  have hj : j < 8 := by have := (List.getElem?_eq_some_iff.1 h).1; rwa [Blk.len] at this
  rw [hi, Nat.add_assoc, flat_get swr9 hk (by omega), Swr.cells, Nat.add_comm 1 j, List.getElem?_cons_succ]; exact h
theorem swr_ok {l : List Swr} (h : ∀ x ∈ l, x.ok) {k : Nat} (hk : k < l.length) : -9223372036854775808 ≤ (nth l k).s ∧ (nth l k).s ≤ 9223372036854775807 := h _ (nth_mem hk)
theorem Lf.swr {cs : List Value} (h : Lf (some .i64 :: blkK) cs) : ∃ x : Swr, cs = x.cells ∧ x.ok := by
  obtain ⟨z, ds, rfl, h1, h2, h3⟩ := h.iv
  obtain ⟨b, rfl⟩ := h3.blk
  exact ⟨⟨z, b⟩, rfl, h1, h2⟩
section
variable {H : Type} {enc : TypeId × Value → H} {W : World}
theorem open_swrites {b0 : Nat} {v : Value} {d : DataW H} {p : List MemPlace} (hv : Value.okWide Try.prog W .any b0 50 v) (h : DataW.Trod enc Try.prog W 0 (fun _ => true) true 50 v d p) :
    ∃ l : List Swr, Sl W 9 v l.length (l.flatMap Swr.cells) ∧ ∀ x ∈ l, x.ok := by
  obtain ⟨css, hs, hc⟩ := open_sl_flat (sz := 9) (ks := some .i64 :: blkK) Try.underlying50 (by kernel_rfl) (by omega) (by kernel_rfl) hv h
  obtain ⟨l, rfl, e, hok⟩ := each_flat (fun c hc => hc.swr) hc
  rw [e, List.length_map] at hs
  exact ⟨l, hs, hok⟩
theorem open_changes3 {b0 : Nat} {v : Value} {d : DataW H} {p : List MemPlace} (hv : Value.okWide Try.prog W .any b0 40 v) (h : DataW.Trod enc Try.prog W 0 (fun _ => true) true 40 v d p) :
    ∃ l : List Swr, l.length = 3 ∧ (∀ x ∈ l, x.ok) ∧ v = .agg (l.flatMap Swr.cells).toArray := by
  obtain ⟨cs, rfl, hl⟩ := open_agg (ks := (List.replicate 3 (some .i64 :: blkK)).flatten) (by kernel_rfl) (by kernel_rfl) hv h
  obtain ⟨css, h1, rfl, h2⟩ := hl.many
  obtain ⟨l, rfl, e, hok⟩ := each_flat (fun c hc => hc.swr) h2
  exact ⟨l, by simpa using h1, hok, by rw [e]⟩
theorem open_blk13 {b0 : Nat} {v : Value} {d : DataW H} {p : List MemPlace} (hv : Value.okWide Try.prog W .any b0 43 v) (h : DataW.Trod enc Try.prog W 0 (fun _ => true) true 43 v d p) :
    ∃ l : List Blk, l.length = 13 ∧ v = .agg (kvs l).toArray := by
  obtain ⟨cs, rfl, hl⟩ := open_agg (ks := (List.replicate 13 blkK).flatten) (by kernel_rfl) (by kernel_rfl) hv h
  obtain ⟨l, h1, rfl⟩ := hl.blks
  exact ⟨l, h1, rfl⟩
theorem open_u16 {b0 : Nat} {v : Value} {d : DataW H} {p : List MemPlace} (hv : Value.okWide Try.prog W .any b0 44 v) (h : DataW.Trod enc Try.prog W 0 (fun _ => true) true 44 v d p) : ∃ n : Nat, v = .int .u16 n ∧ n < 65536 := by
  obtain ⟨n, rfl, _, _, hw⟩ := open_int Try.underlying44 hv h
  have hb := bounds_u16 hw
  exact ⟨n.toNat, by rw [Int.toNat_of_nonneg hb.1], by omega⟩
end
end Go.Proofs.Ytkifedekpmgfpaa
