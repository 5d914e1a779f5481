/- The theory of the first independent rows, in plain Lean: spans, ranks, inverses. No condition. -/
import Derived.Test.YtlkemgefioiffaaMat10
namespace Go.Proofs.Ytlkemgefioiffaa
/-- A basis: row i is 1 at its own column and 0 at those of the others, and 0 ahead of its own. -/
structure Bas (n : Nat) (B : List (List G)) (ld : List Nat) : Prop extends Bok n B ld where
  one : ∀ i, i < B.length → ∀ j, j < B.length → el B i (nth ld j) = dlt i j
  low : ∀ i, i < B.length → ∀ k, k < nth ld i → el B i k = 0
section
variable {n : Nat} {B : List (List G)} {ld : List Nat} {row : List G}
theorem redP_el (h : Bok n B ld) (hr : row.length = n) {i : Nat} (hi : i < B.length) {k : Nat} (hk : k < n) : nth (redP row B ld (i + 1)) k = nth (redP row B ld i) k + nth (redP row B ld i) (nth ld i) * el B i k :=
  fused_el _ (redP_len h hr i (by omega)) (h.row i hi) hk
theorem redP_at (h : Bas n B ld) (hr : row.length = n) : ∀ i, i ≤ B.length → ∀ j, j < B.length → nth (redP row B ld i) (nth ld j) = if j < i then 0 else nth row (nth ld j)
  | 0, _, j, _ => by rw [if_neg (by omega)]; rfl
  | i + 1, hi, j, hj => by
    rw [redP_el h.toBok hr (by omega) (h.lt j hj), redP_at h hr i (by omega) j hj, redP_at h hr i (by omega) i (by omega), if_neg (by omega : ¬ i < i), h.one i (by omega) j hj]
    by_cases e : j = i
    · subst e; rw [if_neg (by omega), dlt_self, G.mul_one, G.add_self, if_pos (by omega)]
    · rw [dlt_ne (fun e' => e e'.symm), G.mul_zero, G.add_zero]
      by_cases e2 : j < i
      · rw [if_pos e2, if_pos (by omega)]
      · rw [if_neg e2, if_neg (by omega)]
theorem redP_sum (h : Bas n B ld) (hr : row.length = n) : ∀ i, i ≤ B.length → ∀ k, k < n → nth (redP row B ld i) k = nth row k + gsum i (fun j => nth row (nth ld j) * el B j k)
  | 0, _, k, _ => (G.add_zero _).symm
  | i + 1, hi, k, hk => by
    rw [redP_el h.toBok hr (by omega) hk, redP_sum h hr i (by omega) k hk, redP_at h hr i (by omega) i (by omega), if_neg (by omega), G.add_assoc]; rfl
theorem qrow_el {r : List G} (hr : r.length = n) (k : Nat) {t : Nat} (ht : t < n) : nth (qrow r k) t = ginv (nth r k) * nth r t := by
  unfold qrow
  rw [fused_el (w := n) _ (by rw [zrow_len, hr]) hr ht, zrow_nth (by rw [hr]; exact ht), G.zero_add]
theorem leadO_bas (h : Bas n B ld) {i : Nat} (hi : i < B.length) : leadO (nth B i) = some (nth ld i) := by
  refine fnd_eq (by rw [h.row i hi]; exact h.lt i hi) (nz_t.2 ?_) fun k hk => nz_f.2 (h.low i hi k hk)
  have := h.one i hi i hi
  unfold el at this
  rw [this, dlt_self]; exact one_ne_zero
end
/-- Everything about one step that adds a row. -/
theorem addB_bas {n : Nat} {B : List (List G)} {ld : List Nat} {row : List G} {p : List (List G) × List Nat} (h : Bas n B ld) (hr : row.length = n) (hp : addB B ld row = some p) :
    ∃ k R, R = redP row B ld B.length ∧ leadO R = some k ∧ p = (clr B (qrow R k) k ++ [qrow R k], ld ++ [k]) ∧ Bas n p.1 p.2 ∧ p.1.length = B.length + 1 ∧ k < n ∧
      (∀ i, i < B.length → ∀ t, t < n → el p.1 i t = el B i t + el B i k * nth (qrow R k) t) ∧ (∀ t, el p.1 B.length t = nth (qrow R k) t) ∧ R.length = n := by
  have hbk := addB_ok h.toBok hr hp
  unfold addB at hp
  have hl := redP_len h.toBok hr B.length (Nat.le_refl _)
  obtain ⟨R, hR⟩ : ∃ R, R = redP row B ld B.length := ⟨_, rfl⟩
  have hat : ∀ j, j < B.length → nth R (nth ld j) = 0 := fun j hj => by rw [hR, redP_at h hr _ (Nat.le_refl _) j hj, if_pos hj]
  rw [← hR] at hp hl
  cases hk : leadO R with
  | none => rw [hk] at hp; cases hp
  | some k =>
    rw [hk] at hp
    simp only [Option.some.injEq] at hp
    subst hp
    obtain ⟨hk1, hk2, hk3⟩ := leadO_some hk
    rw [hl] at hk1
    obtain ⟨q, hq⟩ : ∃ q, q = qrow R k := ⟨_, rfl⟩
    have hqe : ∀ t, t < n → nth q t = ginv (nth R k) * nth R t := fun t ht => by rw [hq]; exact qrow_el hl k ht
    have hqk : nth q k = 1 := by rw [hqe k hk1, G.mul_comm]; exact mul_ginv hk2
    have hql : ∀ j, j < B.length → nth q (nth ld j) = 0 := fun j hj => by rw [hqe _ (h.lt j hj), hat j hj, G.mul_zero]
    have hq0 : ∀ t, t < k → nth q t = 0 := fun t ht => by rw [hqe t (by omega), hk3 t ht, G.mul_zero]
    have hqn : q.length = n := by rw [hq, qrow_len, hl]
    have hqq := hq
    rw [← hq] at hbk
    have hcl := clr_len (B := B) (q := q) (k := k)
    have e1 : ∀ i, i < B.length → ∀ t, t < n → el (clr B q k ++ [q]) i t = el B i t + el B i k * nth q t := fun i hi t ht => by
      unfold el
      rw [nth_snoc hcl (by omega), if_pos hi, clr_row hi, fused_el (w := n) _ (h.row i hi) hqn ht]
    have e2 : ∀ t, el (clr B q k ++ [q]) B.length t = nth q t := fun t => by
      unfold el
      rw [nth_snoc hcl (by omega), if_neg (by omega)]
    have hlen : (clr B q k ++ [q]).length = B.length + 1 := by rw [List.length_append, hcl]; rfl
    have hld : ∀ j, j < B.length → nth (ld ++ [k]) j = nth ld j := fun j hj => by rw [nth_snoc h.len (by omega), if_pos hj]
    have hldk : nth (ld ++ [k]) B.length = k := by rw [nth_snoc h.len (by omega), if_neg (by omega)]
    have hkl : ∀ j, j < B.length → nth ld j ≠ k := fun j hj e => hk2 (by rw [← e]; exact hat j hj)
    refine ⟨k, R, hR, hk, ?_⟩
    rw [← hq]
    refine ⟨rfl, ⟨hbk.1, ?_, ?_⟩, hlen, hk1, e1, e2, hl⟩
    · intro i hi j hj
      simp only at hi hj ⊢
      rw [hlen] at hi hj
      by_cases hiB : i < B.length
      · by_cases hjB : j < B.length
        · rw [hld j hjB, e1 i hiB _ (h.lt j hjB), hql j hjB, G.mul_zero, G.add_zero]; exact h.one i hiB j hjB
        · have : j = B.length := by omega
          subst this
          rw [hldk, e1 i hiB k hk1, hqk, G.mul_one, G.add_self, dlt_ne (by omega)]
      · have : i = B.length := by omega
        subst this
        rw [e2]
        by_cases hjB : j < B.length
        · rw [hld j hjB, hql j hjB, dlt_ne (by omega)]
        · have : j = B.length := by omega
          subst this
          rw [hldk, hqk, dlt_self]
    · intro i hi t ht
      simp only at hi ht ⊢
      rw [hlen] at hi
      by_cases hiB : i < B.length
      · rw [hld i hiB] at ht
        rw [e1 i hiB t (Nat.lt_trans ht (h.lt i hiB)), h.low i hiB t ht, G.zero_add]
        by_cases hki : k < nth ld i
        · rw [h.low i hiB k hki, G.zero_mul]
        · have := hkl i hiB
          rw [hq0 t (by omega), G.mul_zero]
      · have : i = B.length := by omega
        subst this
        rw [hldk] at ht
        rw [e2, hq0 t ht]
/-- v is the combination of the basis that its elements at the leading columns say. -/
def InSp (n : Nat) (B : List (List G)) (ld : List Nat) (v : List G) : Prop := ∀ t, t < n → nth v t = gsum B.length fun j => nth v (nth ld j) * el B j t
/-- v is a combination of some rows. -/
def Comb (m : List (List G)) (sel : List Nat) (n : Nat) (v : Nat → G) : Prop := ∃ c : Nat → G, ∀ t, t < n → v t = gsum sel.length fun s => c s * el m (nth sel s) t
theorem comb_add {m : List (List G)} {sel : List Nat} {n : Nat} {u v w : Nat → G} (x : G) (hu : Comb m sel n u) (hv : Comb m sel n v) (hw : ∀ t, t < n → w t = u t + x * v t) : Comb m sel n w := by
  obtain ⟨c, hc⟩ := hu
  obtain ⟨d, hd⟩ := hv
  refine ⟨fun s => c s + x * d s, fun t ht => ?_⟩
  rw [hw t ht, hc t ht, hd t ht, mul_gsum, ← gsum_add]
  exact gsum_congr fun s _ => by rw [G.add_mul, G.mul_assoc]
theorem comb_mul {m : List (List G)} {sel : List Nat} {n : Nat} {v w : Nat → G} (x : G) (hv : Comb m sel n v) (hw : ∀ t, t < n → w t = x * v t) : Comb m sel n w := by
  obtain ⟨d, hd⟩ := hv
  refine ⟨fun s => x * d s, fun t ht => ?_⟩
  rw [hw t ht, hd t ht, mul_gsum]
  exact gsum_congr fun s _ => by rw [G.mul_assoc]
theorem comb_ext {m : List (List G)} {sel : List Nat} {n i : Nat} {v : Nat → G} (hv : Comb m sel n v) : Comb m (sel ++ [i]) n v := by
  obtain ⟨c, hc⟩ := hv
  refine ⟨fun s => if s < sel.length then c s else 0, fun t ht => ?_⟩
  rw [List.length_append, List.length_singleton, gsum]
  dsimp only
  rw [if_neg (by omega), G.zero_mul, G.add_zero, hc t ht]
  exact gsum_congr fun s hs => by rw [if_pos hs, nth_snoc rfl (by omega), if_pos hs]
theorem comb_self {m : List (List G)} {sel : List Nat} {n i : Nat} : Comb m (sel ++ [i]) n (fun t => el m i t) := by
  refine ⟨fun s => if s = sel.length then 1 else 0, fun t _ => ?_⟩
  rw [List.length_append, List.length_singleton, gsum]
  dsimp only
  rw [if_pos rfl, G.one_mul, nth_snoc rfl (by omega), if_neg (by omega), gsum_zero, G.zero_add]
  intro s hs
  rw [if_neg (by omega), G.zero_mul]
structure IndInv (m : List (List G)) (n i : Nat) (s : List (List G) × List Nat × List Nat) : Prop where
  bas : Bas n s.1 s.2.1
  len : s.2.2.length = s.1.length
  sel : ∀ k, k < s.2.2.length → nth s.2.2 k < i
  sp : ∀ k, k < i → InSp n s.1 s.2.1 (nth m k)
  comb : ∀ j, j < s.1.length → Comb m s.2.2 n (fun t => el s.1 j t)
theorem indS_inv {m : List (List G)} {n : Nat} (h : ∀ i, i < m.length → (nth m i).length = n) : ∀ i, i ≤ m.length → IndInv m n i (indS m i)
  | 0, _ => ⟨⟨⟨rfl, fun i hi => absurd hi (by simp [indS]), fun i hi => absurd hi (by simp [indS])⟩, fun i hi => absurd hi (by simp [indS]), fun i hi => absurd hi (by simp [indS])⟩, rfl, fun k hk => absurd hk (by simp [indS]), fun k hk => absurd hk (by omega), fun j hj => absurd hj (by simp [indS])⟩
  | i + 1, hi => by
    have ih := indS_inv h i (by omega)
    have hrow := h i (by omega)
    rw [indS]
    obtain ⟨B, hB⟩ : ∃ B, B = (indS m i).1 := ⟨_, rfl⟩
    obtain ⟨ld, hld⟩ : ∃ ld, ld = (indS m i).2.1 := ⟨_, rfl⟩
    obtain ⟨sel, hsel⟩ : ∃ sel, sel = (indS m i).2.2 := ⟨_, rfl⟩
    obtain ⟨b1, b2, b3, b4, b5⟩ := ih
    rw [← hB, ← hld] at b1
    rw [← hsel, ← hB] at b2
    rw [← hsel] at b3
    rw [← hB, ← hld] at b4
    rw [← hB, ← hsel] at b5
    rw [← hB, ← hld, ← hsel]
    have hsum := redP_sum b1 hrow B.length (Nat.le_refl _)
    cases hp : addB B ld (nth m i) with
    | none =>
      have hz : leadO (redP (nth m i) B ld B.length) = none := by
        unfold addB at hp
        cases hk : leadO (redP (nth m i) B ld B.length) with
        | none => rfl
        | some k => rw [hk] at hp; cases hp
      have hl := redP_len b1.toBok hrow B.length (Nat.le_refl _)
      have e : (indS m i) = (B, ld, sel) := by rw [hB, hld, hsel]
      simp only
      rw [e]
      refine ⟨b1, b2, fun k hk => Nat.lt_succ_of_lt (b3 k hk), fun k hk => ?_, b5⟩
      by_cases hki : k < i
      · exact b4 k hki
      · have : k = i := by omega
        subst this
        intro t ht
        have := hsum t ht
        rw [leadO_none hz t (by rw [hl]; exact ht)] at this
        exact G.add_cancel this.symm
    | some p =>
      obtain ⟨k, R, hR, hk, hpe, pb, pl, hkn, e1, e2, hRl⟩ := addB_bas b1 hrow hp
      obtain ⟨hk1, hk2, _⟩ := leadO_some hk
      have hqe : ∀ t, t < n → nth (qrow R k) t = ginv (nth R k) * nth R t := fun t ht => qrow_el hRl k ht
      have hRq : ∀ t, t < n → nth R t = nth R k * nth (qrow R k) t := fun t ht => by rw [hqe t ht, ← G.mul_assoc, mul_ginv hk2, G.one_mul]
      have hld' : ∀ j, j < B.length → nth p.2 j = nth ld j := fun j hj => by rw [hpe]; show nth (ld ++ [k]) j = _; rw [nth_snoc b1.len (by omega), if_pos hj]
      have hldk : nth p.2 B.length = k := by rw [hpe]; show nth (ld ++ [k]) _ = _; rw [nth_snoc b1.len (by omega), if_neg (by omega)]
      -- what the new basis says of a vector
      have spanEq : ∀ (v : Nat → G) t, t < n → (gsum p.1.length fun j => v (nth p.2 j) * el p.1 j t) = (gsum B.length fun j => v (nth ld j) * el B j t) + ((gsum B.length fun j => v (nth ld j) * el B j k) + v k) * nth (qrow R k) t := fun v t ht => by
        rw [pl, gsum, hldk, e2, G.add_mul, gsum_mul, ← G.add_assoc, ← gsum_add]
        congr 1
        exact gsum_congr fun j hj => by rw [hld' j hj, e1 j hj t ht, G.mul_add, G.mul_assoc]
      refine ⟨pb, ?_, fun q hq => ?_, fun q hq => ?_, fun j hj => ?_⟩
      · simp only [List.length_append, List.length_singleton]; omega
      · simp only [List.length_append, List.length_singleton] at hq ⊢
        rw [nth_snoc rfl hq]
        split
        · rename_i hlt; exact Nat.lt_succ_of_lt (b3 q hlt)
        · omega
      · intro t ht
        rw [spanEq (fun x => nth (nth m q) x) t ht]
        by_cases hqi : q < i
        · have hs := b4 q hqi
          rw [← hs t ht, ← hs k hkn, G.add_self, G.zero_mul, G.add_zero]
        · have : q = i := by omega
          subst this
          have s1 := hsum t ht
          have s2 := hsum k hkn
          rw [← hR] at s1 s2
          have g1 : (gsum B.length fun j => nth (nth m q) (nth ld j) * el B j t) = nth R t + nth (nth m q) t := by rw [s1, G.add_comm (nth (nth m q) t), G.add_add_cancel]
          have g2 : (gsum B.length fun j => nth (nth m q) (nth ld j) * el B j k) = nth R k + nth (nth m q) k := by rw [s2, G.add_comm (nth (nth m q) k), G.add_add_cancel]
          rw [g1, g2, G.add_add_cancel, ← hRq t ht, G.add_comm (nth R t), G.add_add_cancel]
      · simp only at hj ⊢
        have hcR : ∀ l, l ≤ B.length → Comb m (sel ++ [i]) n (fun t => nth (redP (nth m i) B ld l) t) := fun l => by
          induction l with
          | zero => intro _; exact comb_self
          | succ l ih =>
            intro hl
            exact comb_add (nth (redP (nth m i) B ld l) (nth ld l)) (ih (by omega)) (comb_ext (b5 l (by omega))) fun t ht => redP_el b1.toBok hrow (by omega) ht
        have hcq : Comb m (sel ++ [i]) n (fun t => nth (qrow R k) t) := comb_mul (ginv (nth R k)) (hcR B.length (Nat.le_refl _)) fun t ht => by rw [hqe t ht, hR]
        rw [pl] at hj
        by_cases hjB : j < B.length
        · exact comb_add (el B j k) (comb_ext (b5 j hjB)) hcq fun t ht => e1 j hjB t ht
        · have : j = B.length := by omega
          subst this
          obtain ⟨c, hc⟩ := hcq
          exact ⟨c, fun t ht => by show el p.1 B.length t = _; rw [e2]; exact hc t ht⟩
/-! ### Ranks -/
section
variable {m : List (List G)} {n : Nat} {s : List (List G) × List Nat × List Nat}
/-- Through q columns: no more rows than q are independent. -/
theorem rank_fac (h : IndInv m n m.length s) {q : Nat} {X Y : Nat → Nat → G} (hf : ∀ i, i < m.length → ∀ t, t < n → el m i t = gsum q fun u => X i u * Y u t) : s.1.length ≤ q := by
  have hex : ∀ i, ∃ c : Nat → G, i < s.1.length → ∀ t, t < n → el s.1 i t = gsum s.2.2.length fun a => c a * el m (nth s.2.2 a) t := fun i => by
    by_cases hi : i < s.1.length
    · obtain ⟨c, hc⟩ := h.comb i hi; exact ⟨c, fun _ => hc⟩
    · exact ⟨fun _ => 0, fun h => absurd h hi⟩
  obtain ⟨D, hD⟩ := Classical.axiomOfChoice hex
  refine rank_le (P := fun i u => gsum s.2.2.length fun a => D i a * X (nth s.2.2 a) u) (Q := fun u j => Y u (nth s.2.1 j)) fun i hi j hj => ?_
  have hlt := h.bas.lt j hj
  rw [← h.bas.one i hi j hj, hD i hi _ hlt, gsum_assoc]
  exact gsum_congr fun a ha => by rw [hf _ (h.sel a ha) _ hlt]
theorem rank_cols (h : IndInv m n m.length s) : s.1.length ≤ n :=
  rank_fac h (q := n) (X := fun i u => el m i u) (Y := fun u t => dlt u t) fun i _ t ht => (gsum_dlt' ht _).symm
/-- The rows are combinations of the basis. -/
theorem rows_fac (h : IndInv m n m.length s) {i : Nat} (hi : i < m.length) {t : Nat} (ht : t < n) : el m i t = gsum s.1.length fun j => el m i (nth s.2.1 j) * el s.1 j t := h.sp i hi t ht
/-- A vector that all chosen rows take to 0, with as many chosen as columns, is 0. -/
theorem ker_zero (h : IndInv m n m.length s) (hr : s.1.length = n) {x : Nat → G} (hx : ∀ a, a < s.2.2.length → gsum n (fun t => el m (nth s.2.2 a) t * x t) = 0) : ∀ t, t < n → x t = 0 := by
  have hB : ∀ i, i < n → gsum n (fun t => el s.1 i t * x t) = 0 := fun i hi => by
    obtain ⟨c, hc⟩ := h.comb i (by omega)
    have e : gsum n (fun t => el s.1 i t * x t) = gsum n (fun t => (gsum s.2.2.length fun a => c a * el m (nth s.2.2 a) t) * x t) := gsum_congr fun t ht => by have h7 := hc t ht; dsimp only at h7; rw [h7]
    rw [e, gsum_assoc]
    exact gsum_zero fun a ha => by rw [hx a ha, G.mul_zero]
  have hS := inv_two (n := n) (P := fun i t => el s.1 i t) (Q := fun t j => dlt t (nth s.2.1 j)) fun i hi j hj => by
    rw [gsum_dlt' (h.bas.lt j (by omega))]; exact h.bas.one i (by omega) j (by omega)
  intro t ht
  have e1 : gsum n (fun j => gsum n (fun k => dlt t (nth s.2.1 k) * el s.1 k j) * x j) = x t := by
    have : gsum n (fun j => gsum n (fun k => dlt t (nth s.2.1 k) * el s.1 k j) * x j) = gsum n (fun j => dlt t j * x j) := gsum_congr fun j hj => by rw [hS t ht j hj]
    rw [this, gsum_dlt ht]
  rw [gsum_assoc] at e1
  rw [← e1]
  exact gsum_zero fun k hk => by rw [hB k hk, G.mul_zero]
end
theorem indep_inv {m : List (List G)} {n : Nat} (h : ∀ i, i < m.length → (nth m i).length = n) : IndInv m n m.length (indS m m.length) := indS_inv h _ (Nat.le_refl _)
theorem indep_rank {m : List (List G)} {n : Nat} (h : ∀ i, i < m.length → (nth m i).length = n) : (indep m).length = (indS m m.length).1.length := (indep_inv h).len
/-- As many independent rows as rows: there is an inverse; and only then. -/
theorem inv_iff {m : List (List G)} {n : Nat} (h : Shp m n n) : ((indep m).length < n → invM m = none) ∧ ((indep m).length = n → ∃ v, invM m = some v) := by
  have hl : ∀ i, i < m.length → (nth m i).length = n := fun i hi => h.2 i (by rw [← h.1]; exact hi)
  have hI := indep_inv hl
  have hr := indep_rank hl
  constructor
  · intro hlt
    cases hv : invM m with
    | none => rfl
    | some v =>
      exfalso
      obtain ⟨_, h2, _⟩ := invM_some h hv
      have : n ≤ (indS m m.length).1.length := rank_le (P := fun i u => gsum n fun k => el v i k * el m k (nth (indS m m.length).2.1 u)) (Q := fun u j => el (indS m m.length).1 u j) fun i hi j hj => by
        rw [gsum_assoc, ← h2 i hi j hj]
        exact gsum_congr fun k hk => by rw [rows_fac hI (by rw [h.1]; exact hk) hj]
      omega
  · intro heq
    cases hv : invM m with
    | some v => exact ⟨v, rfl⟩
    | none =>
      exfalso
      obtain ⟨x, ⟨k, hk, hx⟩, hz⟩ := invM_none h hv
      exact hx (ker_zero hI (by omega) (fun a ha => hz _ (Nat.lt_of_lt_of_eq (hI.sel a ha) h.1)) k hk)
/-- The chosen rows, when they are as many as the columns, have an inverse. -/
theorem left_some {m : List (List G)} {n : Nat} (h : ∀ i, i < m.length → (nth m i).length = n) (hr : (indep m).length = n) : ∃ v, invM (rowsM m (indep m)) = some v := by
  have hI := indep_inv h
  have hrk := indep_rank h
  have hshp : Shp (rowsM m (indep m)) n n := ⟨by simp [rowsM, hr], fun i hi => by
    rw [rowsM, nth_map _ (by rw [hr]; exact hi)]
    exact h _ (hI.sel i (by show i < (indep m).length; rw [hr]; exact hi))⟩
  cases hv : invM (rowsM m (indep m)) with
  | some v => exact ⟨v, rfl⟩
  | none =>
    exfalso
    obtain ⟨x, ⟨k, hk, hx⟩, hz⟩ := invM_none hshp hv
    refine hx (ker_zero hI (by omega) (fun a ha => ?_) k hk)
    have ha' : a < n := by have : a < (indep m).length := ha; omega
    have := hz a ha'
    rw [← this]
    refine gsum_congr fun t _ => ?_
    congr 1
    unfold el
    rw [rowsM, nth_map _ (show a < (indep m).length from ha)]; rfl
theorem indep_lt {m : List (List G)} {n : Nat} (h : ∀ i, i < m.length → (nth m i).length = n) : ∀ k, k < (indep m).length → nth (indep m) k < m.length := (indep_inv h).sel
theorem indep_cols {m : List (List G)} {n : Nat} (h : ∀ i, i < m.length → (nth m i).length = n) : (indep m).length ≤ n := by rw [indep_rank h]; exact rank_cols (indep_inv h)
/-- As many independent columns as independent rows. -/
theorem rank_tr {m : List (List G)} (hg : 1 ≤ m.length) {n : Nat} (hn : 1 ≤ n) (h : ∀ i, i < m.length → (nth m i).length = n) : (indep (trM m)).length = (indep m).length := by
  have h0 : (nth m 0).length = n := h 0 (by omega)
  have htl : (trM m).length = n := by simp [trM, h0]
  have hel : ∀ t, t < n → ∀ i, i < m.length → el (trM m) t i = el m i t := fun t ht i hi => by
    unfold trM
    show nth (nth _ t) i = _
    rw [h0, nth_range _ ht, nth_range _ hi]
  have ht : ∀ i, i < (trM m).length → (nth (trM m) i).length = m.length := fun i hi => by
    rw [htl] at hi
    unfold trM
    rw [h0, nth_range _ hi]; simp
  have I1 := indep_inv h
  have I2 := indep_inv ht
  rw [indep_rank h, indep_rank ht]
  refine Nat.le_antisymm (rank_fac I2 (X := fun t j => el (indS m m.length).1 j t) (Y := fun j i => el m i (nth (indS m m.length).2.1 j)) fun t htt i hi => ?_) (rank_fac I1 (X := fun i j => el (indS (trM m) (trM m).length).1 j i) (Y := fun j t => el (trM m) t (nth (indS (trM m) (trM m).length).2.1 j)) fun i hi t htt => ?_)
  · rw [htl] at htt
    rw [hel t htt i hi, rows_fac I1 hi htt]
    exact gsum_congr fun j _ => G.mul_comm _ _
  · rw [← hel t htt i hi, rows_fac I2 (by rw [htl]; exact htt) hi]
    exact gsum_congr fun j _ => G.mul_comm _ _
end Go.Proofs.Ytlkemgefioiffaa
