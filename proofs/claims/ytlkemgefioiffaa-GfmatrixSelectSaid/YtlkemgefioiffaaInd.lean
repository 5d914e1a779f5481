/- The first independent rows, in plain Lean. No condition. -/
import Derived.Test.YtlkemgefioiffaaGauss
namespace Go.Proofs.Ytlkemgefioiffaa
/-- A row less multiples of the first i rows of a basis. -/
def redP (row : List G) (B : List (List G)) (ld : List Nat) : Nat → List G
  | 0 => row
  | i + 1 => gfused (redP row B ld i) (nth B i) (nth (redP row B ld i) (nth ld i))
def leadO (r : List G) : Option Nat := fnd (fun k => nz (nth r k)) r.length
def qrow (r : List G) (k : Nat) : List G := gfused (zrow r.length) r (ginv (nth r k))
def clr (B : List (List G)) (q : List G) (k : Nat) : List (List G) := B.map fun b => gfused b q (nth b k)
def addB (B : List (List G)) (ld : List Nat) (row : List G) : Option (List (List G) × List Nat) :=
  match leadO (redP row B ld B.length) with
  | none => none
  | some k => some (clr B (qrow (redP row B ld B.length) k) k ++ [qrow (redP row B ld B.length) k], ld ++ [k])
def indS (m : List (List G)) : Nat → List (List G) × List Nat × List Nat
  | 0 => ([], [], [])
  | i + 1 => match addB (indS m i).1 (indS m i).2.1 (nth m i) with
    | none => indS m i
    | some p => (p.1, p.2, (indS m i).2.2 ++ [i])
def indep (m : List (List G)) : List Nat := (indS m m.length).2.2
/-- The shape of a basis. -/
structure Bok (n : Nat) (B : List (List G)) (ld : List Nat) : Prop where
  len : ld.length = B.length
  row : ∀ i, i < B.length → (nth B i).length = n
  lt : ∀ i, i < B.length → nth ld i < n
theorem redP_len {n : Nat} {B : List (List G)} {ld : List Nat} {row : List G} (h : Bok n B ld) (hr : row.length = n) : ∀ i, i ≤ B.length → (redP row B ld i).length = n
  | 0, _ => hr
  | i + 1, hi => by rw [redP, gfused_length _ _ _ (by rw [redP_len h hr i (by omega), h.row i (by omega)]), redP_len h hr i (by omega)]
theorem qrow_len {r : List G} {k : Nat} : (qrow r k).length = r.length := by unfold qrow; rw [gfused_length _ _ _ (zrow_len _), zrow_len]
theorem leadO_some {r : List G} {k : Nat} (h : leadO r = some k) : k < r.length ∧ nth r k ≠ 0 ∧ ∀ j, j < k → nth r j = 0 := by
  obtain ⟨h1, h2, h3⟩ := fnd_some h
  exact ⟨h1, nz_t.1 h2, fun j hj => nz_f.1 (h3 j hj)⟩
theorem leadO_none {r : List G} (h : leadO r = none) : ∀ k, k < r.length → nth r k = 0 := fun k hk => nz_f.1 (fnd_none h k hk)
theorem clr_len {B : List (List G)} {q : List G} {k : Nat} : (clr B q k).length = B.length := by simp [clr]
theorem clr_row {B : List (List G)} {q : List G} {k i : Nat} (hi : i < B.length) : nth (clr B q k) i = gfused (nth B i) q (nth (nth B i) k) := nth_map _ hi
theorem nth_snoc {α : Type} [Inhabited α] {l : List α} {a : α} {k n : Nat} (h : l.length = n) (hk : k < n + 1) : nth (l ++ [a]) k = if k < n then nth l k else a := by
  rw [nth_app]
  by_cases e : k < n
  · rw [if_pos (by omega), if_pos e]
  · rw [if_neg (by omega), if_neg e, show k - l.length = 0 from by omega]; rfl
theorem addB_ok {n : Nat} {B : List (List G)} {ld : List Nat} {row : List G} {p : List (List G) × List Nat} (h : Bok n B ld) (hr : row.length = n) (hp : addB B ld row = some p) : Bok n p.1 p.2 ∧ p.1.length = B.length + 1 := by
  unfold addB at hp
  have hl := redP_len h hr B.length (Nat.le_refl _)
  cases hk : leadO (redP row B ld B.length) with
  | none => rw [hk] at hp; cases hp
  | some k =>
    rw [hk] at hp
    simp only [Option.some.injEq] at hp
    subst hp
    have hkn := (leadO_some hk).1
    have e : (clr B (qrow (redP row B ld B.length) k) k ++ [qrow (redP row B ld B.length) k]).length = B.length + 1 := by rw [List.length_append, clr_len]; rfl
    refine ⟨⟨by simp [h.len, clr_len], fun i hi => ?_, fun i hi => ?_⟩, e⟩
    · rw [e] at hi
      rw [nth_snoc clr_len hi]
      split
      · rename_i hlt
        rw [clr_row hlt, gfused_length _ _ _ (by rw [h.row i hlt, qrow_len, hl]), h.row i hlt]
      · rw [qrow_len, hl]
    · rw [e] at hi
      rw [nth_snoc h.len hi]
      split
      · rename_i hlt; exact h.lt i hlt
      · omega
theorem indS_ok {m : List (List G)} {n : Nat} (h : ∀ i, i < m.length → (nth m i).length = n) : ∀ i, i ≤ m.length → Bok n (indS m i).1 (indS m i).2.1 ∧ (indS m i).2.2.length = (indS m i).1.length ∧ (indS m i).1.length ≤ i
  | 0, _ => ⟨⟨rfl, fun i hi => absurd hi (by simp [indS]), fun i hi => absurd hi (by simp [indS])⟩, rfl, by simp [indS]⟩
  | i + 1, hi => by
    obtain ⟨h1, h2, h3⟩ := indS_ok h i (by omega)
    rw [indS]
    cases hp : addB (indS m i).1 (indS m i).2.1 (nth m i) with
    | none => exact ⟨h1, h2, by simpa using Nat.le_succ_of_le h3⟩
    | some p =>
      obtain ⟨q1, q2⟩ := addB_ok h1 (h i (by omega)) hp
      exact ⟨q1, by simp only [List.length_append, h2, q2]; rfl, by simp only [q2]; omega⟩
end Go.Proofs.Ytlkemgefioiffaa
