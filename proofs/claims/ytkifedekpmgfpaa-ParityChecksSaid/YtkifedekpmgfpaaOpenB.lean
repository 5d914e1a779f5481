/- Blocks and rows of blocks that came in, opened. No condition. -/
import Derived.Test.YtkifedekpmgfpaaOpen
import Derived.Test.YtkifedekpmgfpaaBlk
import Derived.OpenShut
namespace Go.Proofs.Ytkifedekpmgfpaa
open Go.RowKit Go.WideShapes Go.ChangeShapes Go.ChangeAt
theorem own : ownKnob Try.prog.godebug = none := by kernel_rfl
theorem laidOut : laidOutB Try.prog = true := by kernel_rfl
section
variable {H : Type} {enc : TypeId × Value → H} {W : World}
theorem bv_of {n : Int} (h0 : 0 ≤ n) (h1 : n ≤ 255) : ∃ g : G, Value.int .u8 n = bv g := ⟨⟨n.toNat, by omega⟩, by show _ = Value.int .u8 ((n.toNat : Nat) : Int); rw [Int.toNat_of_nonneg h0]⟩
theorem trod_blk {fuel : Nat} {cs : List Value} {x : DataW H × List MemPlace} (h : DataW.trod enc Try.prog W 0 (fun _ => true) true fuel 37 cs = some x) : ∃ b : Blk, cs = b.cells := by
  obtain ⟨xs, m, _, _, hl, hxl, hg⟩ := DataW.trod_array Try.underlying37 h
  have hc : Try.prog.cellsOf 37 = 8 := by kernel_rfl
  have h1 : Try.prog.cellsOf 5 = 1 := by kernel_rfl
  rw [hc] at hl
  have key : ∀ i, i < 8 → ∃ g : G, cs[i]? = some (bv g) := fun i hi => by
    have := hg i hi
    rw [h1, Nat.mul_one, List.getElem?_eq_getElem (by omega)] at this
    obtain ⟨z, e1, _, e3⟩ := DataW.trod_int Try.underlying5 this
    have hb := bounds_u8 e3
    obtain ⟨g, hgz⟩ := bv_of hb.1 hb.2
    refine ⟨g, ?_⟩
    have h2 : ((cs.drop i).take 1)[0]? = some (.int .u8 z) := by rw [e1]; rfl
    rw [List.getElem?_take, if_pos (by omega), List.getElem?_drop, Nat.add_zero] at h2
    rw [h2, hgz]
  have key2 : ∃ f : Nat → G, ∀ i, i < 8 → cs[i]? = some (bv (f i)) := by
    refine ⟨fun i => if h : i < 8 then Classical.choose (key i h) else 0, fun i hi => ?_⟩
    simp only [dif_pos hi]
    exact Classical.choose_spec (key i hi)
  obtain ⟨f, hf⟩ := key2
  refine ⟨Blk.of f, List.ext_getElem? fun i => ?_⟩
  rcases Nat.lt_or_ge i 8 with hi | hi
  · rw [hf i hi, Blk.get _ hi, Blk.of_at _ hi]
  · rw [List.getElem?_eq_none (by omega), List.getElem?_eq_none (by rw [Blk.len]; omega)]
theorem open_blks {b0 : Nat} {v : Value} {d : DataW H} {p : List MemPlace} (hv : Value.okWide Try.prog W .any b0 30 v) (h : DataW.Trod enc Try.prog W 0 (fun _ => true) true 30 v d p) :
    ∃ l : List Blk, Sl W 8 v l.length (kvs l) := by
  obtain ⟨css, hl, hs, hr⟩ := open_sl_gen (sz := 8) Try.underlying30 (by kernel_rfl) (by omega) hv h
  have key : ∃ l : List Blk, css = l.map Blk.cells := by
    clear hs hl
    induction css with
    | nil => exact ⟨[], rfl⟩
    | cons c css ih =>
      obtain ⟨l, e⟩ := ih (fun cs h => hr cs (by simp [h]))
      obtain ⟨f, x, hx⟩ := hr c (by simp)
      obtain ⟨b, e2⟩ := trod_blk hx
      exact ⟨b :: l, by rw [e, e2]; rfl⟩
  obtain ⟨l, rfl⟩ := key
  refine ⟨l, ?_⟩
  rw [List.length_map] at hs
  rw [kvs, List.flatMap_def]
  exact hs
end
end Go.Proofs.Ytkifedekpmgfpaa
