/- Linear algebra over the field, in plain Lean: sums, more unknowns than equations, factors of the identity. No condition. -/
import Derived.Test.YtlkemgefioiffaaMatW
namespace Go.Proofs.Ytlkemgefioiffaa
def gsum : Nat → (Nat → G) → G
  | 0, _ => 0
  | n + 1, f => gsum n f + f n
theorem gsum_congr {n : Nat} {f g : Nat → G} (h : ∀ k, k < n → f k = g k) : gsum n f = gsum n g := by
  induction n with
  | zero => rfl
  | succ n ih => rw [gsum, gsum, ih fun k hk => h k (by omega), h n (by omega)]
theorem gsum_add (n : Nat) (f g : Nat → G) : gsum n (fun k => f k + g k) = gsum n f + gsum n g := by
  induction n with
  | zero => exact (G.add_zero 0).symm
  | succ n ih => rw [gsum, gsum, gsum, ih]; ac_rfl
theorem gsum_zero {n : Nat} {f : Nat → G} (h : ∀ k, k < n → f k = 0) : gsum n f = 0 := by
  induction n with
  | zero => rfl
  | succ n ih => rw [gsum, ih fun k hk => h k (by omega), h n (by omega), G.add_zero]
theorem mul_gsum (c : G) (n : Nat) (f : Nat → G) : c * gsum n f = gsum n (fun k => c * f k) := by
  induction n with
  | zero => exact G.mul_zero c
  | succ n ih => rw [gsum, gsum, G.mul_add, ih]
theorem gsum_mul (c : G) (n : Nat) (f : Nat → G) : gsum n f * c = gsum n (fun k => f k * c) := by
  rw [G.mul_comm, mul_gsum]; exact gsum_congr fun k _ => G.mul_comm _ _
theorem gsum_swap (n m : Nat) (f : Nat → Nat → G) : gsum n (fun i => gsum m (fun j => f i j)) = gsum m (fun j => gsum n (fun i => f i j)) := by
  induction n with
  | zero => exact (gsum_zero fun _ _ => rfl).symm
  | succ n ih =>
    show gsum n (fun i => gsum m (fun j => f i j)) + gsum m (fun j => f n j) = gsum m (fun j => gsum n (fun i => f i j) + f n j)
    rw [ih, ← gsum_add]
theorem gsum_take {n a : Nat} (ha : a < n) (f : Nat → G) : gsum n f = f a + gsum n (fun k => if k = a then 0 else f k) := by
  induction n with
  | zero => omega
  | succ n ih =>
    rw [gsum, gsum]
    by_cases h : a = n
    · subst h
      rw [if_pos rfl, G.add_zero, G.add_comm]
      congr 1
      exact gsum_congr fun k hk => by rw [if_neg (by omega)]
    · rw [ih (by omega), if_neg (by omega), G.add_assoc]
theorem gsum_one {n a : Nat} (ha : a < n) {f : Nat → G} (h : ∀ k, k < n → k ≠ a → f k = 0) : gsum n f = f a := by
  rw [gsum_take ha, gsum_zero, G.add_zero]
  intro k hk
  by_cases e : k = a
  · rw [if_pos e]
  · rw [if_neg e, h k hk e]
def dlt (i j : Nat) : G := if i = j then 1 else 0
theorem dlt_self (i : Nat) : dlt i i = 1 := if_pos rfl
theorem dlt_ne {i j : Nat} (h : i ≠ j) : dlt i j = 0 := if_neg h
theorem dlt_comm (i j : Nat) : dlt i j = dlt j i := by
  unfold dlt
  by_cases h : i = j
  · rw [if_pos h, if_pos h.symm]
  · rw [if_neg h, if_neg (fun e => h e.symm)]
theorem gsum_dlt {n i : Nat} (hi : i < n) (f : Nat → G) : gsum n (fun j => dlt i j * f j) = f i := by
  rw [gsum_one hi fun k _ hk => by rw [dlt_ne (fun e => hk e.symm), G.zero_mul], dlt_self, G.one_mul]
theorem gsum_dlt' {n i : Nat} (hi : i < n) (f : Nat → G) : gsum n (fun j => f j * dlt j i) = f i := by
  rw [gsum_one hi fun k _ hk => by rw [dlt_ne hk, G.mul_zero], dlt_self, G.mul_one]
/-- Products of three, in either order. -/
theorem gsum_assoc (p q : Nat) (a : Nat → G) (b : Nat → Nat → G) (c : Nat → G) : gsum q (fun k => gsum p (fun j => a j * b j k) * c k) = gsum p (fun j => a j * gsum q (fun k => b j k * c k)) := by
  have h1 : gsum q (fun k => gsum p (fun j => a j * b j k) * c k) = gsum q (fun k => gsum p (fun j => a j * b j k * c k)) := gsum_congr fun k _ => gsum_mul _ _ _
  rw [h1, gsum_swap]
  exact gsum_congr fun j _ => by rw [mul_gsum]; exact gsum_congr fun k _ => G.mul_assoc _ _ _
/-- More unknowns than equations: a solution that is not 0. -/
theorem hom : ∀ (q p : Nat) (A : Nat → Nat → G), q < p → ∃ x : Nat → G, (∃ k, k < p ∧ x k ≠ 0) ∧ ∀ i, i < q → gsum p (fun k => A i k * x k) = 0
  | 0, p, _, h => ⟨fun _ => 1, ⟨0, h, one_ne_zero⟩, fun i hi => absurd hi (by omega)⟩
  | q + 1, 0, _, h => absurd h (by omega)
  | q + 1, p + 1, A, h => by
    by_cases hz : ∀ i, i < q + 1 → A i p = 0
    · refine ⟨fun k => dlt k p, ⟨p, by omega, by show dlt p p ≠ 0; rw [dlt_self]; exact one_ne_zero⟩, fun i hi => ?_⟩
      rw [gsum_dlt' (by omega), hz i hi]
    · obtain ⟨r, hr, hne⟩ : ∃ r, r < q + 1 ∧ A r p ≠ 0 := by
        refine Classical.byContradiction fun hn => hz fun i hi => Classical.byContradiction fun hx => hn ⟨i, hi, hx⟩
      obtain ⟨v, hv⟩ : ∃ v, v = ginv (A r p) := ⟨_, rfl⟩
      have hv1 : A r p * v = 1 := by rw [hv]; exact mul_ginv hne
      obtain ⟨x, ⟨k0, hk0, hx0⟩, hx⟩ := hom q p (fun i k => A (if i < r then i else i + 1) k + A (if i < r then i else i + 1) p * v * A r k) (by omega)
      obtain ⟨s, hs⟩ : ∃ s, s = gsum p (fun k => A r k * x k) := ⟨_, rfl⟩
      refine ⟨fun k => if k = p then v * s else x k, ⟨k0, by omega, by show (if k0 = p then v * s else x k0) ≠ 0; rw [if_neg (by omega)]; exact hx0⟩, fun i hi => ?_⟩
      have hsum : gsum (p + 1) (fun k => A i k * (if k = p then v * s else x k)) = gsum p (fun k => A i k * x k) + A i p * (v * s) := by
        rw [gsum, if_pos rfl]
        congr 1
        exact gsum_congr fun k hk => by rw [if_neg (by omega)]
      rw [hsum]
      by_cases hir : i = r
      · subst hir
        rw [← G.mul_assoc, hv1, G.one_mul, hs, G.add_self]
      · obtain ⟨j, hj, hji⟩ : ∃ j, j < q ∧ (if j < r then j else j + 1) = i := by
          by_cases hlt : i < r
          · exact ⟨i, by omega, if_pos hlt⟩
          · exact ⟨i - 1, by omega, by rw [if_neg (by omega)]; omega⟩
        have h1 := hx j hj
        simp only [hji] at h1
        have h2 : gsum p (fun k => (A i k + A i p * v * A r k) * x k) = gsum p (fun k => A i k * x k) + A i p * v * s := by
          rw [hs, mul_gsum, ← gsum_add]
          exact gsum_congr fun k _ => by rw [G.add_mul, G.mul_assoc]
        rw [h2] at h1
        rw [← G.mul_assoc]; exact h1
/-- A factor of the identity is no narrower than it. -/
theorem rank_le {p q : Nat} {P Q : Nat → Nat → G} (h : ∀ i, i < p → ∀ j, j < p → gsum q (fun k => P i k * Q k j) = dlt i j) : p ≤ q := by
  refine Classical.byContradiction fun hn => ?_
  obtain ⟨x, ⟨k, hk, hx⟩, hQ⟩ := hom q p Q (by omega)
  refine hx ?_
  have h1 : gsum p (fun j => gsum q (fun l => P k l * Q l j) * x j) = x k := by
    have : gsum p (fun j => gsum q (fun l => P k l * Q l j) * x j) = gsum p (fun j => dlt k j * x j) := gsum_congr fun j hj => by rw [h k hk j hj]
    rw [this, gsum_dlt hk]
  rw [gsum_assoc] at h1
  rw [← h1]
  exact gsum_zero fun l hl => by rw [hQ l hl, G.mul_zero]
/-- What is an inverse on one side is one on the other. -/
theorem inv_two {n : Nat} {P Q : Nat → Nat → G} (h : ∀ i, i < n → ∀ j, j < n → gsum n (fun k => P i k * Q k j) = dlt i j) : ∀ i, i < n → ∀ j, j < n → gsum n (fun k => Q i k * P k j) = dlt i j := by
  intro i0 hi0 k hk
  refine Classical.byContradiction fun hne => ?_
  obtain ⟨z, hz⟩ : ∃ z : Nat → G, z = fun i => dlt i k + gsum n (fun j => Q i j * P j k) := ⟨_, rfl⟩
  have hz0 : z i0 ≠ 0 := fun e => hne (by rw [hz] at e; exact (G.add_cancel e).symm)
  obtain ⟨u, ⟨m, hm, hum⟩, hu⟩ := hom n (n + 1) (fun i j => if j < n then Q i j else z i) (by omega)
  have hs : ∀ i, i < n → gsum n (fun j => Q i j * u j) + z i * u n = 0 := fun i hi => by
    have := hu i hi
    rw [gsum, if_neg (by omega)] at this
    rw [← this]
    congr 1
    exact gsum_congr fun j hj => by rw [if_pos hj]
  have hPz : ∀ i, i < n → gsum n (fun l => P i l * z l) = 0 := fun i hi => by
    have e1 : gsum n (fun l => P i l * z l) = gsum n (fun l => P i l * dlt l k) + gsum n (fun l => P i l * gsum n (fun j => Q l j * P j k)) := by
      rw [← gsum_add]; exact gsum_congr fun l _ => by rw [hz, G.mul_add]
    rw [e1, gsum_dlt' hk, ← gsum_assoc]
    have e2 : gsum n (fun j => gsum n (fun l => P i l * Q l j) * P j k) = gsum n (fun j => dlt i j * P j k) := gsum_congr fun j hj => by rw [h i hi j hj]
    rw [e2, gsum_dlt hi, G.add_self]
  have hu0 : ∀ i, i < n → u i = 0 := fun i hi => by
    have e1 : gsum n (fun l => P i l * (gsum n (fun j => Q l j * u j) + z l * u n)) = 0 := gsum_zero fun l hl => by rw [hs l hl, G.mul_zero]
    have e2 : gsum n (fun l => P i l * (gsum n (fun j => Q l j * u j) + z l * u n)) = gsum n (fun l => P i l * gsum n (fun j => Q l j * u j)) + gsum n (fun l => P i l * z l) * u n := by
      rw [gsum_mul, ← gsum_add]; exact gsum_congr fun l _ => by rw [G.mul_add, G.mul_assoc]
    rw [e2, hPz i hi, G.zero_mul, G.add_zero, ← gsum_assoc] at e1
    have e3 : gsum n (fun j => gsum n (fun l => P i l * Q l j) * u j) = gsum n (fun j => dlt i j * u j) := gsum_congr fun j hj => by rw [h i hi j hj]
    rw [e3, gsum_dlt hi] at e1
    exact e1
  have hmn : m = n := Classical.byContradiction fun e => hum (hu0 m (by omega))
  subst hmn
  have := hs i0 hi0
  rw [gsum_zero fun j hj => by rw [hu0 j hj, G.mul_zero], G.zero_add] at this
  rcases mul_eq_zero_iff.1 this with e | e
  · exact hz0 e
  · exact hum e
end Go.Proofs.Ytlkemgefioiffaa
