/- The elimination of Gauss and Jordan on lists of rows, in plain Lean: what it finds is the inverse, or a vector that the matrix takes to 0. No condition. -/
import Derived.Test.YtlkemgefioiffaaMat4
namespace Go.Proofs.Ytlkemgefioiffaa
/-- The first number below n for which p holds. -/
def fnd (p : Nat → Bool) : Nat → Option Nat
  | 0 => none
  | n + 1 => match fnd p n with
    | some j => some j
    | none => if p n then some n else none
theorem fnd_none {p : Nat → Bool} : ∀ {n : Nat}, fnd p n = none → ∀ i, i < n → p i = false
  | 0, _, i, hi => absurd hi (by omega)
  | n + 1, h, i, hi => by
    unfold fnd at h
    cases hf : fnd p n with
    | some j => rw [hf] at h; cases h
    | none =>
      rw [hf] at h
      by_cases hp : p n = true
      · simp [hp] at h
      · by_cases e : i = n
        · rw [e]; simpa using hp
        · exact fnd_none hf i (by omega)
theorem fnd_some {p : Nat → Bool} : ∀ {n j : Nat}, fnd p n = some j → j < n ∧ p j = true ∧ ∀ i, i < j → p i = false
  | 0, _, h => by cases h
  | n + 1, j, h => by
    unfold fnd at h
    cases hf : fnd p n with
    | some k =>
      rw [hf] at h
      simp only [Option.some.injEq] at h
      subst h
      obtain ⟨h1, h2, h3⟩ := fnd_some hf
      exact ⟨by omega, h2, h3⟩
    | none =>
      rw [hf] at h
      by_cases hp : p n = true
      · simp only [hp, if_true, Option.some.injEq] at h
        subst h
        exact ⟨by omega, hp, fnd_none hf⟩
      · simp [hp] at h
theorem fnd_eq {p : Nat → Bool} {n j : Nat} (hj : j < n) (hp : p j = true) (h : ∀ i, i < j → p i = false) : fnd p n = some j := by
  cases hf : fnd p n with
  | none => rw [fnd_none hf j hj] at hp; cases hp
  | some k =>
    obtain ⟨h1, h2, h3⟩ := fnd_some hf
    rcases Nat.lt_trichotomy j k with h4 | h4 | h4
    · rw [h3 j h4] at hp; cases hp
    · rw [h4]
    · rw [h k h4] at h2; cases h2
theorem fnd_all {p : Nat → Bool} {n : Nat} (h : ∀ i, i < n → p i = false) : fnd p n = none := by
  cases hf : fnd p n with
  | none => rfl
  | some k =>
    obtain ⟨h1, h2, _⟩ := fnd_some hf
    rw [h k h1] at h2; cases h2
def fz : Option Nat → Int
  | some k => k
  | none => -1
def nz (x : G) : Bool := decide (x ≠ 0)
theorem nz_t {x : G} : nz x = true ↔ x ≠ 0 := by unfold nz; simp
theorem nz_f {x : G} : nz x = false ↔ x = 0 := by unfold nz; simp
/-- The row that is exchanged with row c, counted from c. -/
def pvt (a : List (List G)) (n c : Nat) : Option Nat := fnd (fun k => nz (el a (c + k) c)) (n - c)
def swp (a : List (List G)) (c q : Nat) : List (List G) := (a.set c (nth a q)).set q (nth a c)
def nrm (a : List (List G)) (w c : Nat) : List (List G) := a.set c (gfused (zrow w) (nth a c) (ginv (el a c c)))
/-- The rows below i are cleared. -/
def elm (a : List (List G)) (n c i : Nat) : List (List G) := (List.range n).map fun q => if q < i ∧ q ≠ c then gfused (nth a q) (nth a c) (el a q c) else nth a q
def stp (a : List (List G)) (n c q : Nat) : List (List G) := elm (nrm (swp a c (c + q)) (2 * n) c) n c n
/-- The last k columns. -/
def gjr (n : Nat) : Nat → List (List G) → Option (List (List G))
  | 0, a => some a
  | k + 1, a => match pvt a n (n - (k + 1)) with
    | none => none
    | some q => gjr n k (stp a n (n - (k + 1)) q)
def aug (m : List (List G)) (n : Nat) : List (List G) := (List.range n).map fun i => nth m i ++ (List.range n).map fun j => dlt i j
def invM (m : List (List G)) : Option (List (List G)) := (gjr m.length m.length (aug m m.length)).map fun a => a.map (List.drop m.length)
/-- The shape of what is worked on. -/
def Shp (a : List (List G)) (n w : Nat) : Prop := a.length = n ∧ ∀ i, i < n → (nth a i).length = w
section
variable {a : List (List G)} {n w c q i : Nat}
theorem swp_len : (swp a c q).length = a.length := by simp [swp]
theorem swp_row (hc : c < a.length) (hq : q < a.length) (i : Nat) : nth (swp a c q) i = if i = q then nth a c else if i = c then nth a q else nth a i := by
  unfold swp
  rw [nth_put (by simpa using hq), nth_put hc]
theorem swp_shp (h : Shp a n w) (hc : c < n) (hq : q < n) : Shp (swp a c q) n w := by
  refine ⟨by rw [swp_len, h.1], fun i hi => ?_⟩
  rw [swp_row (by rw [h.1]; exact hc) (by rw [h.1]; exact hq)]
  split
  · exact h.2 c hc
  · split
    · exact h.2 q hq
    · exact h.2 i hi
theorem nrm_row (h : Shp a n w) (hc : c < n) (i : Nat) : nth (nrm a w c) i = if i = c then gfused (zrow w) (nth a c) (ginv (el a c c)) else nth a i := by
  unfold nrm
  rw [nth_put (by rw [h.1]; exact hc)]
theorem nrm_shp (h : Shp a n w) (hc : c < n) : Shp (nrm a w c) n w := by
  refine ⟨by unfold nrm; rw [List.length_set, h.1], fun i hi => ?_⟩
  rw [nrm_row h hc]
  split
  · rw [gfused_length _ _ _ (by rw [zrow_len, h.2 c hc]), zrow_len]
  · exact h.2 i hi
theorem elm_len : (elm a n c i).length = n := by simp [elm]
theorem elm_row {q : Nat} (hq : q < n) : nth (elm a n c i) q = if q < i ∧ q ≠ c then gfused (nth a q) (nth a c) (el a q c) else nth a q := nth_range _ hq
theorem elm_shp (h : Shp a n w) (hc : c < n) : Shp (elm a n c i) n w := by
  refine ⟨elm_len, fun q hq => ?_⟩
  rw [elm_row hq]
  split
  · rw [gfused_length _ _ _ (by rw [h.2 q hq, h.2 c hc]), h.2 q hq]
  · exact h.2 q hq
theorem elm_zero (h : a.length = n) : elm a n c 0 = a := list_ext_nth (by rw [elm_len, h]) fun q hq => by
  rw [elm_len] at hq
  rw [elm_row hq, if_neg (by omega)]
theorem elm_skip (h : i = c) : elm a n c i = elm a n c (i + 1) := List.map_congr_left fun q _ => by
  by_cases e : q < i ∧ q ≠ c
  · rw [if_pos e, if_pos (by omega)]
  · rw [if_neg e, if_neg (by omega)]
theorem elm_set (hi : i < n) (hne : i ≠ c) : (elm a n c i).set i (gfused (nth a i) (nth a c) (el a i c)) = elm a n c (i + 1) := list_ext_nth (by rw [List.length_set, elm_len, elm_len]) fun q hq => by
  rw [List.length_set, elm_len] at hq
  rw [nth_put (by rw [elm_len]; exact hi), elm_row hq, elm_row hq]
  by_cases e : q = i
  · subst e; rw [if_pos rfl, if_pos (by omega)]
  · rw [if_neg e]
    by_cases e2 : q < i ∧ q ≠ c
    · rw [if_pos e2, if_pos (by omega)]
    · rw [if_neg e2, if_neg (by omega)]
/-! elements -/
theorem fused_el {d s : List G} {w : Nat} (x : G) (h1 : d.length = w) (h2 : s.length = w) {j : Nat} (hj : j < w) : nth (gfused d s x) j = nth d j + x * nth s j := by rw [gfused_map x h1 h2, nth_range _ hj]
theorem swp_el (h : Shp a n w) (hc : c < n) (hq : q < n) (i j : Nat) : el (swp a c q) i j = if i = q then el a c j else if i = c then el a q j else el a i j := by
  unfold el
  rw [swp_row (by rw [h.1]; exact hc) (by rw [h.1]; exact hq)]
  split
  · rfl
  · split <;> rfl
theorem nrm_el (h : Shp a n w) (hc : c < n) (i : Nat) {j : Nat} (hj : j < w) : el (nrm a w c) i j = if i = c then ginv (el a c c) * el a c j else el a i j := by
  unfold el
  rw [nrm_row h hc]
  split
  · rw [fused_el (w := w) _ (zrow_len _) (h.2 c hc) hj, zrow_nth hj, G.zero_add]; rfl
  · rfl
theorem elm_el (h : Shp a n w) (hc : c < n) {i j : Nat} (hi : i < n) (hj : j < w) : el (elm a n c n) i j = if i = c then el a c j else el a i j + el a i c * el a c j := by
  unfold el
  rw [elm_row hi]
  by_cases e : i = c
  · rw [if_neg (by omega), if_pos e, e]
  · rw [if_pos ⟨hi, e⟩, if_neg e, fused_el (w := w) _ (h.2 i hi) (h.2 c hc) hj]; rfl
end
/-- What holds when c columns are done. -/
structure Inv (m a : List (List G)) (n c : Nat) : Prop where
  shp : Shp a n (2 * n)
  fac : ∀ i, i < n → ∀ j, j < n → el a i j = gsum n fun k => el a i (n + k) * el m k j
  ker : ∀ x : Nat → G, (∀ i, i < n → gsum n (fun j => el a i j * x j) = 0) → ∀ i, i < n → gsum n (fun j => el m i j * x j) = 0
  one : ∀ i, i < n → ∀ j, j < c → el a i j = dlt i j
theorem aug_row {m : List (List G)} {n i : Nat} (hi : i < n) : nth (aug m n) i = nth m i ++ (List.range n).map fun j => dlt i j := nth_range _ hi
theorem nth_app {α : Type} [Inhabited α] (a b : List α) (k : Nat) : nth (a ++ b) k = if k < a.length then nth a k else nth b (k - a.length) := by
  unfold nth
  simp only [List.getD_eq_getElem?_getD]
  by_cases h : k < a.length
  · rw [if_pos h, List.getElem?_append_left h]
  · rw [if_neg h, List.getElem?_append_right (by omega)]
theorem aug_inv {m : List (List G)} {n : Nat} (h : Shp m n n) : Inv m (aug m n) n 0 := by
  have e1 : ∀ i, i < n → ∀ j, j < n → el (aug m n) i j = el m i j := fun i hi j hj => by
    unfold el; rw [aug_row hi, nth_app, if_pos (by rw [h.2 i hi]; exact hj)]
  have e2 : ∀ i, i < n → ∀ j, j < n → el (aug m n) i (n + j) = dlt i j := fun i hi j hj => by
    unfold el; rw [aug_row hi, nth_app, if_neg (by rw [h.2 i hi]; omega), h.2 i hi, Nat.add_sub_cancel_left, nth_range _ hj]
  refine ⟨⟨by simp [aug], fun i hi => ?_⟩, fun i hi j hj => ?_, fun x hx i hi => ?_, fun i hi j hj => absurd hj (by omega)⟩
  · rw [aug_row hi, List.length_append, h.2 i hi]; simp; omega
  · rw [e1 i hi j hj]
    have : gsum n (fun k => el (aug m n) i (n + k) * el m k j) = gsum n (fun k => dlt i k * el m k j) := gsum_congr fun k hk => by rw [e2 i hi k hk]
    rw [this, gsum_dlt hi]
  · rw [← hx i hi]; exact gsum_congr fun j hj => by rw [e1 i hi j hj]
theorem swp_inv {m a : List (List G)} {n c q : Nat} (h : Inv m a n c) (hc : c < n) (hq : q < n) (hcq : c ≤ q) : Inv m (swp a c q) n c := by
  have E := fun i j => swp_el h.shp hc hq i j
  refine ⟨swp_shp h.shp hc hq, fun i hi j hj => ?_, fun x hx => h.ker x fun i hi => ?_, fun i hi j hj => ?_⟩
  · rw [E]
    by_cases e : i = q
    · rw [if_pos e, h.fac c hc j hj]; exact gsum_congr fun k _ => by rw [E, if_pos e]
    · by_cases e2 : i = c
      · rw [if_neg e, if_pos e2, h.fac q hq j hj]; exact gsum_congr fun k _ => by rw [E, if_neg e, if_pos e2]
      · rw [if_neg e, if_neg e2, h.fac i hi j hj]; exact gsum_congr fun k _ => by rw [E, if_neg e, if_neg e2]
  · by_cases e2 : i = c
    · have := hx q hq
      rw [e2, ← this]; exact gsum_congr fun k _ => by rw [E, if_pos rfl]
    · by_cases e : i = q
      · have := hx c hc
        rw [e, ← this]
        refine gsum_congr fun k _ => ?_
        rw [E]
        by_cases e3 : c = q
        · rw [if_pos e3, e3]
        · rw [if_neg e3, if_pos rfl]
      · rw [← hx i hi]; exact gsum_congr fun k _ => by rw [E, if_neg e, if_neg e2]
  · rw [E]
    by_cases e : i = q
    · rw [if_pos e, h.one c hc j hj, dlt_ne (by omega), dlt_ne (by omega)]
    · by_cases e2 : i = c
      · rw [if_neg e, if_pos e2, h.one q hq j hj, dlt_ne (by omega), dlt_ne (by omega)]
      · rw [if_neg e, if_neg e2, h.one i hi j hj]
theorem nrm_inv {m a : List (List G)} {n c : Nat} (h : Inv m a n c) (hc : c < n) (hp : el a c c ≠ 0) : Inv m (nrm a (2 * n) c) n c ∧ el (nrm a (2 * n) c) c c = 1 := by
  have E := fun i j (hj : j < 2 * n) => nrm_el h.shp hc i hj
  have hm := mul_ginv hp
  refine ⟨⟨nrm_shp h.shp hc, fun i hi j hj => ?_, fun x hx => h.ker x fun i hi => ?_, fun i hi j hj => ?_⟩, ?_⟩
  · rw [E i j (by omega)]
    by_cases e : i = c
    · rw [if_pos e, h.fac c hc j hj, mul_gsum]; exact gsum_congr fun k hk => by rw [E i (n + k) (by omega), if_pos e, G.mul_assoc]
    · rw [if_neg e, h.fac i hi j hj]; exact gsum_congr fun k hk => by rw [E i (n + k) (by omega), if_neg e]
  · by_cases e : i = c
    · have h1 := hx c hc
      have h2 : gsum n (fun j => el (nrm a (2 * n) c) c j * x j) = ginv (el a c c) * gsum n (fun j => el a c j * x j) := by
        rw [mul_gsum]; exact gsum_congr fun k hk => by rw [E c k (by omega), if_pos rfl, G.mul_assoc]
      rw [h2] at h1
      rcases mul_eq_zero_iff.1 h1 with h3 | h3
      · exact absurd h3 (ginv_ne hp)
      · rw [e]; exact h3
    · rw [← hx i hi]; exact gsum_congr fun k hk => by rw [E i k (by omega), if_neg e]
  · rw [E i j (by omega)]
    by_cases e : i = c
    · rw [if_pos e, h.one c hc j hj, dlt_ne (by omega), G.mul_zero, dlt_ne (by omega)]
    · rw [if_neg e, h.one i hi j hj]
  · rw [E c c (by omega), if_pos rfl, G.mul_comm]; exact hm
theorem elm_inv {m a : List (List G)} {n c : Nat} (h : Inv m a n c) (hc : c < n) (hp : el a c c = 1) : Inv m (elm a n c n) n (c + 1) := by
  have E := fun i j (hi : i < n) (hj : j < 2 * n) => elm_el h.shp hc hi hj
  refine ⟨elm_shp h.shp hc, fun i hi j hj => ?_, fun x hx => h.ker x fun i hi => ?_, fun i hi j hj => ?_⟩
  · rw [E i j hi (by omega)]
    by_cases e : i = c
    · rw [if_pos e, h.fac c hc j hj]; exact gsum_congr fun k hk => by rw [E i (n + k) hi (by omega), if_pos e]
    · rw [if_neg e, h.fac i hi j hj, h.fac c hc j hj, mul_gsum, ← gsum_add]; exact gsum_congr fun k hk => by rw [E i (n + k) hi (by omega), if_neg e, G.add_mul, G.mul_assoc]
  · have h1 : gsum n (fun j => el a c j * x j) = 0 := by
      rw [← hx c hc]; exact gsum_congr fun k hk => by rw [E c k hc (by omega), if_pos rfl]
    by_cases e : i = c
    · rw [e]; exact h1
    · have h2 := hx i hi
      have h3 : gsum n (fun j => el (elm a n c n) i j * x j) = gsum n (fun j => el a i j * x j) + el a i c * gsum n (fun j => el a c j * x j) := by
        rw [mul_gsum, ← gsum_add]; exact gsum_congr fun k hk => by rw [E i k hi (by omega), if_neg e, G.add_mul, G.mul_assoc]
      rw [h3, h1, G.mul_zero, G.add_zero] at h2
      exact h2
  · rw [E i j hi (by omega)]
    by_cases ej : j = c
    · subst ej
      by_cases e : i = j
      · rw [if_pos e, hp, e, dlt_self]
      · rw [if_neg e, hp, G.mul_one, G.add_self, dlt_ne e]
    · have hj' : j < c := by omega
      by_cases e : i = c
      · rw [if_pos e, h.one c hc j hj', e]
      · rw [if_neg e, h.one c hc j hj', dlt_ne (by omega), G.mul_zero, G.add_zero, h.one i hi j hj']
theorem stp_inv {m a : List (List G)} {n c q : Nat} (h : Inv m a n c) (hc : c < n) (hq : pvt a n c = some q) : c + q < n ∧ Inv m (stp a n c q) n (c + 1) := by
  obtain ⟨h1, h2, _⟩ := fnd_some hq
  have hlt : c + q < n := by omega
  refine ⟨hlt, ?_⟩
  have hs := swp_inv h hc hlt (by omega)
  have hp : el (swp a c (c + q)) c c ≠ 0 := by
    rw [swp_el h.shp hc hlt]
    have h3 := nz_t.1 h2
    by_cases e : c = c + q
    · rw [if_pos e]; rw [← e] at h3; exact h3
    · rw [if_neg e, if_pos rfl]; exact h3
  obtain ⟨hn, hn1⟩ := nrm_inv hs hc hp
  exact elm_inv hn hc hn1
theorem pvt_none {m a : List (List G)} {n c : Nat} (h : Inv m a n c) (hc : c < n) (hq : pvt a n c = none) : ∃ x : Nat → G, (∃ k, k < n ∧ x k ≠ 0) ∧ ∀ i, i < n → gsum n (fun j => el m i j * x j) = 0 := by
  have h0 : ∀ i, i < n → c ≤ i → el a i c = 0 := fun i hi hci => by
    have := fnd_none hq (i - c) (by omega)
    rw [show c + (i - c) = i from by omega] at this
    exact nz_f.1 this
  refine ⟨fun k => if k = c then 1 else if k < c then el a k c else 0, ⟨c, hc, by show (if c = c then (1 : G) else _) ≠ 0; rw [if_pos rfl]; exact one_ne_zero⟩, h.ker _ fun i hi => ?_⟩
  rw [gsum_take hc]
  show el a i c * (if c = c then 1 else _) + _ = 0
  rw [if_pos rfl, G.mul_one]
  by_cases hic : i < c
  · rw [gsum_one hi (a := i), if_neg (by omega)]
    · show el a i c + el a i i * (if i = c then 1 else if i < c then el a i c else 0) = 0
      rw [if_neg (by omega), if_pos hic, h.one i hi i hic, dlt_self, G.one_mul, G.add_self]
    · intro k hk hki
      by_cases e : k = c
      · rw [if_pos e]
      · rw [if_neg e]
        show el a i k * (if k = c then 1 else if k < c then el a k c else 0) = 0
        rw [if_neg e]
        by_cases e2 : k < c
        · rw [if_pos e2, h.one i hi k e2, dlt_ne (fun h => hki h.symm), G.zero_mul]
        · rw [if_neg e2, G.mul_zero]
  · rw [h0 i hi (by omega), G.zero_add]
    refine gsum_zero fun k hk => ?_
    by_cases e : k = c
    · rw [if_pos e]
    · rw [if_neg e]
      show el a i k * (if k = c then 1 else if k < c then el a k c else 0) = 0
      rw [if_neg e]
      by_cases e2 : k < c
      · rw [if_pos e2, h.one i hi k e2, dlt_ne (by omega), G.zero_mul]
      · rw [if_neg e2, G.mul_zero]
theorem gjr_some {m : List (List G)} {n : Nat} : ∀ {k : Nat} {a b : List (List G)}, k ≤ n → Inv m a n (n - k) → gjr n k a = some b → Inv m b n n
  | 0, a, b, _, h, e => by
    simp only [gjr, Option.some.injEq] at e
    subst e; exact h
  | k + 1, a, b, hk, h, e => by
    simp only [gjr] at e
    cases hp : pvt a n (n - (k + 1)) with
    | none => rw [hp] at e; cases e
    | some q =>
      rw [hp] at e
      have := (stp_inv h (by omega) hp).2
      rw [show n - (k + 1) + 1 = n - k from by omega] at this
      exact gjr_some (by omega) this e
theorem gjr_none {m : List (List G)} {n : Nat} : ∀ {k : Nat} {a : List (List G)}, k ≤ n → Inv m a n (n - k) → gjr n k a = none → ∃ x : Nat → G, (∃ k, k < n ∧ x k ≠ 0) ∧ ∀ i, i < n → gsum n (fun j => el m i j * x j) = 0
  | 0, a, _, _, e => by cases e
  | k + 1, a, hk, h, e => by
    simp only [gjr] at e
    cases hp : pvt a n (n - (k + 1)) with
    | none => exact pvt_none h (by omega) hp
    | some q =>
      rw [hp] at e
      have := (stp_inv h (by omega) hp).2
      rw [show n - (k + 1) + 1 = n - k from by omega] at this
      exact gjr_none (by omega) this e
theorem drop_nth {l : List G} {n k : Nat} : nth (l.drop n) k = nth l (n + k) := by unfold nth; simp [List.getD_eq_getElem?_getD, List.getElem?_drop]
theorem drops_el {a : List (List G)} {n : Nat} {i : Nat} (hi : i < a.length) (j : Nat) : el (a.map (List.drop n)) i j = el a i (n + j) := by
  unfold el; rw [nth_map _ hi, drop_nth]
/-- What is found is the inverse, on both sides. -/
theorem invM_some {m v : List (List G)} {n : Nat} (h : Shp m n n) (e : invM m = some v) : Shp v n n ∧ (∀ i, i < n → ∀ j, j < n → gsum n (fun k => el v i k * el m k j) = dlt i j) ∧ (∀ i, i < n → ∀ j, j < n → gsum n (fun k => el m i k * el v k j) = dlt i j) := by
  unfold invM at e
  rw [h.1] at e
  cases hg : gjr n n (aug m n) with
  | none => rw [hg] at e; cases e
  | some a =>
    rw [hg] at e
    simp only [Option.map_some, Option.some.injEq] at e
    have hi := gjr_some (Nat.le_refl n) (by rw [Nat.sub_self]; exact aug_inv h) hg
    have hs : Shp v n n := by
      subst e
      refine ⟨by rw [List.length_map, hi.shp.1], fun i hin => ?_⟩
      rw [nth_map _ (by rw [hi.shp.1]; exact hin), List.length_drop, hi.shp.2 i hin]; omega
    have hl : ∀ i, i < n → ∀ j, j < n → gsum n (fun k => el v i k * el m k j) = dlt i j := fun i hin j hj => by
      rw [← hi.one i hin j hj, hi.fac i hin j hj]
      subst e
      exact gsum_congr fun k _ => by rw [drops_el (by rw [hi.shp.1]; exact hin)]
    exact ⟨hs, hl, inv_two hl⟩
theorem invM_none {m : List (List G)} {n : Nat} (h : Shp m n n) (e : invM m = none) : ∃ x : Nat → G, (∃ k, k < n ∧ x k ≠ 0) ∧ ∀ i, i < n → gsum n (fun j => el m i j * x j) = 0 := by
  unfold invM at e
  rw [h.1] at e
  cases hg : gjr n n (aug m n) with
  | some a => rw [hg] at e; cases e
  | none => exact gjr_none (Nat.le_refl n) (by rw [Nat.sub_self]; exact aug_inv h) hg
end Go.Proofs.Ytlkemgefioiffaa
