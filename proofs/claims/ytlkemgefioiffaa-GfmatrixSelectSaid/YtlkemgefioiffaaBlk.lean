/- Blocks of eight bytes as rows of elements of the field, in plain Lean. No condition. -/
import Derived.Test.YtlkemgefioiffaaGl
import Derived.Test.YtlkemgefioiffaaEng9
namespace Go.Proofs.Ytlkemgefioiffaa
open Go.RowKit

/-- A block. -/
structure Blk where
  l : List G
  h : l.length = 8
instance : Inhabited Blk := ⟨⟨List.replicate 8 0, rfl⟩⟩
theorem Blk.eq_of : ∀ {a b : Blk}, a.l = b.l → a = b
  | ⟨_, _⟩, ⟨_, _⟩, rfl => rfl
instance : DecidableEq Blk := fun a b => decidable_of_iff (a.l = b.l) ⟨Blk.eq_of, fun h => by rw [h]⟩
def Blk.at (b : Blk) (k : Nat) : G := nth b.l k
def Blk.of (f : Nat → G) : Blk := ⟨(List.range 8).map f, by simp⟩
theorem nth_range {α : Type} [Inhabited α] (f : Nat → α) {n k : Nat} (h : k < n) : nth ((List.range n).map f) k = f k := by
  rw [nth_eq (by simpa using h)]; simp
theorem Blk.of_at (f : Nat → G) {k : Nat} (h : k < 8) : (Blk.of f).at k = f k := nth_range f h
theorem list_ext_nth {α : Type} [Inhabited α] {l m : List α} (hl : l.length = m.length) (h : ∀ k, k < l.length → nth l k = nth m k) : l = m := by
  apply List.ext_getElem hl
  intro k h1 h2
  rw [← nth_eq h1, ← nth_eq h2]
  exact h k h1
theorem Blk.ext_at {a b : Blk} (h : ∀ k, k < 8 → a.at k = b.at k) : a = b := Blk.eq_of (list_ext_nth (by rw [a.h, b.h]) fun k hk => h k (by rw [a.h] at hk; exact hk))
theorem Blk.of_eta (b : Blk) : Blk.of (fun k => b.at k) = b := Blk.ext_at fun k hk => Blk.of_at _ hk
instance : Add Blk := ⟨fun a b => Blk.of fun k => a.at k + b.at k⟩
instance : HMul G Blk Blk := ⟨fun c a => Blk.of fun k => c * a.at k⟩
instance : OfNat Blk 0 := ⟨Blk.of fun _ => 0⟩
theorem Blk.add_at (a b : Blk) {k : Nat} (h : k < 8) : (a + b).at k = a.at k + b.at k := Blk.of_at _ h
theorem Blk.mul_at (c : G) (a : Blk) {k : Nat} (h : k < 8) : (c * a).at k = c * a.at k := Blk.of_at _ h
theorem Blk.zero_at {k : Nat} (h : k < 8) : (0 : Blk).at k = 0 := Blk.of_at (fun _ => 0) h
theorem Blk.add_comm (a b : Blk) : a + b = b + a := Blk.ext_at fun k hk => by rw [Blk.add_at _ _ hk, Blk.add_at _ _ hk, G.add_comm]
theorem Blk.add_assoc (a b c : Blk) : a + b + c = a + (b + c) := Blk.ext_at fun k hk => by simp only [Blk.add_at _ _ hk, G.add_assoc]
theorem Blk.add_zero (a : Blk) : a + 0 = a := Blk.ext_at fun k hk => by rw [Blk.add_at _ _ hk, Blk.zero_at hk, G.add_zero]
theorem Blk.zero_add (a : Blk) : 0 + a = a := by rw [Blk.add_comm, Blk.add_zero]
theorem Blk.add_self (a : Blk) : a + a = 0 := Blk.ext_at fun k hk => by rw [Blk.add_at _ _ hk, Blk.zero_at hk, G.add_self]
theorem Blk.add_add_cancel (a b : Blk) : a + b + b = a := by rw [Blk.add_assoc, Blk.add_self, Blk.add_zero]
theorem Blk.add_cancel {a b : Blk} (h : a + b = 0) : a = b := by rw [← Blk.add_add_cancel a b, h, Blk.zero_add]
theorem Blk.mul_add (c : G) (a b : Blk) : c * (a + b) = c * a + c * b := Blk.ext_at fun k hk => by simp only [Blk.add_at _ _ hk, Blk.mul_at _ _ hk, G.mul_add]
theorem Blk.add_mul (c d : G) (a : Blk) : (c + d) * a = c * a + d * a := Blk.ext_at fun k hk => by simp only [Blk.add_at _ _ hk, Blk.mul_at _ _ hk, G.add_mul]
theorem Blk.mul_mul (c d : G) (a : Blk) : (c * d) * a = c * (d * a) := Blk.ext_at fun k hk => by simp only [Blk.mul_at _ _ hk, G.mul_assoc]
theorem Blk.one_mul (a : Blk) : (1 : G) * a = a := Blk.ext_at fun k hk => by rw [Blk.mul_at _ _ hk, G.one_mul]
theorem Blk.zero_mul (a : Blk) : (0 : G) * a = 0 := Blk.ext_at fun k hk => by rw [Blk.mul_at _ _ hk, Blk.zero_at hk, G.zero_mul]
theorem Blk.mul_zero (c : G) : c * (0 : Blk) = 0 := Blk.ext_at fun k hk => by rw [Blk.mul_at _ _ hk, Blk.zero_at hk, G.mul_zero]
theorem Blk.add_left_comm (a b c : Blk) : a + (b + c) = b + (a + c) := by rw [← Blk.add_assoc, Blk.add_comm a, Blk.add_assoc]
instance : Std.Commutative (α := Blk) (· + ·) := ⟨Blk.add_comm⟩
instance : Std.Associative (α := Blk) (· + ·) := ⟨Blk.add_assoc⟩
/-- The cells of a block. -/
def Blk.cells (b : Blk) : List Value := bvs b.l
theorem Blk.len (b : Blk) : b.cells.length = 8 := by unfold Blk.cells bvs; rw [List.length_map, b.h]
theorem blk8 {l : List Blk} : ∀ b ∈ l, (Blk.cells b).length = 8 := fun b _ => b.len
abbrev kv (b : Blk) : Value := .agg b.cells.toArray
abbrev kvs (l : List Blk) : List Value := l.flatMap Blk.cells
theorem bvs_get {l : List G} {k : Nat} (h : k < l.length) : (bvs l)[k]? = some (bv (nth l k)) := by
  unfold bvs; rw [List.getElem?_map, nth_get h]; rfl
theorem bvs_set (l : List G) (k : Nat) (x : G) : (bvs l).set k (bv x) = bvs (l.set k x) := by unfold bvs; rw [List.map_set]
theorem Blk.get (b : Blk) {k : Nat} (h : k < 8) : b.cells[k]? = some (bv (b.at k)) := bvs_get (by rw [b.h]; exact h)
theorem Blk.one (b : Blk) : ∀ u ∈ b.cells, u.oneCell' = true := fun u hu => by
  obtain ⟨x, _, rfl⟩ := List.mem_map.1 hu
  rfl
/-- The first k places of one row, then another. -/
def mix (k : Nat) (f g : Nat → G) : Blk := Blk.of fun j => if j < k then f j else g j
theorem mix_zero (f g : Nat → G) : mix 0 f g = Blk.of g := by unfold mix; simp
theorem mix_all (f g : Nat → G) : mix 8 f g = Blk.of f := Blk.ext_at fun k hk => by unfold mix; rw [Blk.of_at _ hk, Blk.of_at _ hk, if_pos hk]
theorem mix_at {k j : Nat} (f g : Nat → G) (h : j < 8) : (mix k f g).at j = if j < k then f j else g j := Blk.of_at _ h
theorem mix_step {k : Nat} (f g : Nat → G) (h : k < 8) : (mix k f g).cells.set k (bv (f k)) = (mix (k + 1) f g).cells := by
  show (bvs _).set k (bv (f k)) = bvs _
  rw [bvs_set]
  refine congrArg bvs (list_ext_nth (by rw [List.length_set, (mix k f g).h, (mix (k + 1) f g).h]) fun j hj => ?_)
  have hj8 : j < 8 := by rw [List.length_set, (mix k f g).h] at hj; exact hj
  have h2 : nth (mix (k + 1) f g).l j = if j < k + 1 then f j else g j := mix_at f g hj8
  have h1 : nth (mix k f g).l j = if j < k then f j else g j := mix_at f g hj8
  rw [h2]
  by_cases e : j = k
  · subst e
    rw [nth_eq (by rw [List.length_set, (mix j f g).h]; exact h), List.getElem_set_self, if_pos (by omega)]
  · rw [nth_eq hj, List.getElem_set_ne (fun h => e h.symm), ← nth_eq, h1]
    by_cases h3 : j < k
    · rw [if_pos h3, if_pos (by omega)]
    · rw [if_neg h3, if_neg (by omega)]
theorem mix_start (b : Blk) (f : Nat → G) : b.cells = (mix 0 f fun j => b.at j).cells := by rw [mix_zero, Blk.of_eta]
theorem mix_get {k j : Nat} {f g : Nat → G} (h : j < 8) (hk : ¬ j < k) : (mix k f g).cells[j]? = some (bv (g j)) := by rw [Blk.get _ h, mix_at _ _ h, if_neg hk]
end Go.Proofs.Ytlkemgefioiffaa
