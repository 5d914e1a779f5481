/- Matrices in memory: a row of rows of elements. No condition. -/
import Derived.Test.YtlkemgefioiffaaGl
import Derived.Test.YtlkemgefioiffaaEngR
namespace Go.Proofs.Ytlkemgefioiffaa
open Go.RowKit
/-- A row where it lies. -/
structure Row where
  A : Option Addr
  c : Nat
  l : List G
instance : Inhabited Row := ⟨⟨none, 0, []⟩⟩
def Row.v (r : Row) : Value := .slice r.A r.l.length r.c
def Row.own (r : Row) : Asrt := vec r.A r.l.length r.c 5 1 (bvs r.l)
/-- The elements of a matrix. -/
def els (rs : List Row) : List (List G) := rs.map Row.l
/-- The matrix lies in the world's memory. -/
def MatAt (w : World) (v : Value) (rs : List Row) : Prop := Sl w 1 v rs.length (rs.map Row.v) ∧ ∀ r ∈ rs, Sl w 1 r.v r.l.length (bvs r.l)
theorem MatAt.below {w w' : World} {v : Value} {rs : List Row} (h : MatAt w v rs) (hb : Below w.heap.size w w') : MatAt w' v rs := ⟨h.1.below hb, fun r hr => (h.2 r hr).below hb⟩
theorem nth_mem {α : Type} [Inhabited α] {l : List α} {k : Nat} (h : k < l.length) : nth l k ∈ l := by rw [nth_eq h]; exact List.getElem_mem h
theorem MatAt.row {w : World} {v : Value} {rs : List Row} (h : MatAt w v rs) {k : Nat} (hk : k < rs.length) : Sl w 1 (nth rs k).v (nth rs k).l.length (bvs (nth rs k).l) := h.2 _ (nth_mem hk)
theorem nth_map {α β : Type} [Inhabited α] [Inhabited β] (f : α → β) {l : List α} {k : Nat} (h : k < l.length) : nth (l.map f) k = f (nth l k) := by
  rw [nth_eq (by simpa using h), nth_eq h]; simp
/-- A matrix that is owned. -/
def matL (A : Option Addr) (c : Nat) (rs : List Row) : List Asrt := vec A rs.length c 28 1 (rs.map Row.v) :: rs.map Row.own
theorem MatAt.of_own {w0 w : World} {L : List Asrt} {A : Option Addr} {c : Nat} {rs : List Row} (hw : H w0 L w) (h0 : vec A rs.length c 28 1 (rs.map Row.v) ∈ L) (h : ∀ r ∈ rs, r.own ∈ L) : MatAt w (.slice A rs.length c) rs :=
  ⟨Sl.of_vec hw h0, fun r hr => Sl.of_vec hw (h r hr)⟩
theorem elR : Elem Try.prog 22 28 (.slice none 0 0) 1 24 := ⟨by kernel_rfl, by kernel_rfl, rfl, by decide⟩
theorem bvs_one (l : List G) : ∀ u ∈ bvs l, u.oneCell' = true := fun u hu => by
  obtain ⟨x, _, rfl⟩ := List.mem_map.1 hu
  rfl
theorem rowv_one (rs : List Row) : ∀ u ∈ rs.map Row.v, u.oneCell' = true := fun u hu => by
  obtain ⟨x, _, rfl⟩ := List.mem_map.1 hu
  rfl
theorem madeU (n : Nat) : (madeCells (Value.int .u8 0).cells (n * 1)).toList = bvs (List.replicate n 0) := by
  rw [show (Value.int .u8 0).cells = #[.int .u8 0] from rfl, made_one, bvs, List.map_replicate]
  rfl
end Go.Proofs.Ytlkemgefioiffaa
