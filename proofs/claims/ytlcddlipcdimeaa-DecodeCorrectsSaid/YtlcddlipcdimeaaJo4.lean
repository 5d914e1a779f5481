/- Texts joined: Gen, Gen2, Dec2, Dec3, Dec4, Good, Eng14, Dec6, Dec7. The parts say what each of them proves. No condition. -/
import Derived.Test.YtlcddlipcdimeaaJo3
namespace Go.Proofs.Ytlcddlipcdimeaa
open Go.RowKit
theorem bsum_at {t : Nat} (ht : t < 8) : ∀ (n : Nat) (f : Nat → Blk), (bsum n f).at t = gsum n fun k => (f k).at t
  | 0, _ => Blk.zero_at ht
  | n + 1, f => by
    show (bsum n f + f n).at t = gsum n _ + _
    rw [Blk.add_at _ _ ht, bsum_at ht n f]
theorem mulsum_at {t : Nat} (ht : t < 8) (n : Nat) (c : Nat → G) (f : Nat → Blk) : (bsum n fun k => c k * f k).at t = gsum n fun k => c k * (f k).at t := by
  rw [bsum_at ht]
  exact gsum_congr fun k _ => Blk.mul_at _ _ ht
/-- Sums of sums, in either order. -/
theorem bsum_assoc (p q : Nat) (a : Nat → G) (b : Nat → Nat → G) (f : Nat → Blk) : (bsum p fun j => a j * bsum q fun k => b j k * f k) = bsum q fun k => (gsum p fun j => a j * b j k) * f k :=
  Blk.ext_at fun t ht => by
    rw [mulsum_at ht, mulsum_at ht]
    rw [gsum_congr (g := fun k => a k * gsum q fun j => b k j * (f j).at t) fun k _ => by rw [mulsum_at ht]]
    rw [← gsum_assoc]
/-- All pieces out of the data pieces. -/
def genM (n : Nat) : List (List G) := idM n ++ matx n
theorem genM_len (n : Nat) : (genM n).length = n + 3 := by simp [genM, idM, matx]
theorem genM_row {n i : Nat} (hi : i < n + 3) : nth (genM n) i = if i < n then (List.range n).map fun k => dlt i k else coefs n (i - n) := by
  have hl : (idM n).length = n := by simp [idM]
  unfold genM
  rw [nth_app, hl]
  by_cases h : i < n
  · rw [if_pos h, if_pos h]; exact nth_range _ h
  · rw [if_neg h, if_neg h]; exact nth_range _ (by omega)
theorem genM_rowlen {n i : Nat} (hi : i < n + 3) : (nth (genM n) i).length = n := by
  rw [genM_row hi]
  by_cases h : i < n
  · rw [if_pos h]; simp
  · rw [if_neg h]; exact coefs_len n _
def gen (n i j : Nat) : G := if i < n then dlt i j else gpow 2 (j * (i - n))
theorem genM_el {n i j : Nat} (hi : i < n + 3) (hj : j < n) : el (genM n) i j = gen n i j := by
  unfold el gen
  rw [genM_row hi]
  by_cases h : i < n
  · rw [if_pos h, if_pos h]; exact nth_range _ hj
  · rw [if_neg h, if_neg h]; exact nth_range _ hj
/-- A piece of a consistent group as a combination of the data pieces. -/
theorem grp_gen (ds : List Blk) {i : Nat} (hi : i < ds.length + 3) : nth (ds ++ enc ds) i = bsum ds.length fun j => gen ds.length i j * nth ds j := by
  rw [nth_app]
  by_cases h : i < ds.length
  · rw [if_pos h]
    refine Blk.ext_at fun t ht => ?_
    rw [mulsum_at ht, gsum_congr (g := fun j => dlt i j * (nth ds j).at t) fun j _ => by unfold gen; rw [if_pos h]]
    exact (gsum_dlt h fun j => (nth ds j).at t).symm
  · rw [if_neg h, enc_nth _ (by omega), hor_bsum]
    refine bsum_congr fun j _ => ?_
    unfold gen
    rw [if_neg h, gpow_gpow, Nat.mul_comm]
/-- The places beside those of a list. -/
theorem compl {m : Nat} : ∀ l : List Nat, l.Nodup → (∀ a ∈ l, a < m) → ∃ c : List Nat, c.length + l.length = m ∧ (∀ k, k < m → k ∈ l ∨ k ∈ c) ∧ ∀ k ∈ c, k < m
  | [], _, _ => ⟨List.range m, by simp, fun k hk => .inr (by simpa using hk), fun k hk => by simpa using hk⟩
  | a :: l, hn, hl => by
    obtain ⟨h1, h2⟩ := List.nodup_cons.1 hn
    obtain ⟨c, c1, c2, c3⟩ := compl l h2 fun b hb => hl b (by simp [hb])
    have hac : a ∈ c := (c2 a (hl a (by simp))).resolve_left h1
    refine ⟨c.erase a, ?_, fun k hk => ?_, fun k hk => c3 k (List.mem_of_mem_erase hk)⟩
    · have := List.length_erase_of_mem hac
      have h0 : 0 < c.length := List.length_pos_of_mem hac
      rw [List.length_cons]; omega
    · by_cases e : k = a
      · exact .inl (by simp [e])
      · rcases c2 k hk with h | h
        · exact .inl (by simp [h])
        · exact .inr ((List.mem_erase_of_ne e).2 h)
/-- As many different pieces as data pieces. -/
structure Helps (n : Nat) (from_ : List Nat) : Prop where
  len : from_.length = n
  lt : ∀ i, i < n → nth from_ i < n + 3
  nd : from_.Nodup
theorem Helps.three {n : Nat} {fr : List Nat} (h : Helps n fr) : ∃ a b c, a < n + 3 ∧ b < n + 3 ∧ c < n + 3 ∧ ∀ k, k < n + 3 → k ≠ a → k ≠ b → k ≠ c → ∃ i, i < n ∧ nth fr i = k := by
  obtain ⟨c, c1, c2, c3⟩ := compl (m := n + 3) fr h.nd fun a ha => by
    obtain ⟨i, hi, rfl⟩ := List.getElem_of_mem ha
    have := h.lt i (by rw [← h.len]; exact hi)
    rwa [nth_eq hi] at this
  have hl := h.len
  match c, (show c.length = 3 by omega) with
  | [x, y, z], _ =>
    refine ⟨x, y, z, c3 x (by simp), c3 y (by simp), c3 z (by simp), fun k hk k1 k2 k3 => ?_⟩
    rcases c2 k hk with h' | h'
    · obtain ⟨i, hi, e⟩ := List.getElem_of_mem h'
      exact ⟨i, by omega, by rw [nth_eq hi]; exact e⟩
    · simp at h'; rcases h' with rfl | rfl | rfl <;> contradiction
theorem zero_group {n : Nat} (h1 : 1 ≤ n) (h2 : n ≤ 13) : isGroup (List.replicate (n + 3) (0 : Blk)) = true := by
  have e : List.replicate (n + 3) (0 : Blk) = List.replicate n 0 ++ enc (List.replicate n 0) := list_ext_nth (by simp [enc_len]) fun k hk => by
    have hk' : k < n + 3 := by simpa using hk
    have hz : ∀ m j, nth (List.replicate m (0 : Blk)) j = 0 ∨ m ≤ j := fun m j => by
      by_cases hj : j < m
      · left; rw [nth_eq (by simpa using hj)]; simp
      · right; omega
    rw [grp_gen _ (by simpa using hk'), (hz (n + 3) k).resolve_right (by omega)]
    refine (bsum_zero fun j hj => ?_).symm
    rw [(hz n j).resolve_right (by simpa using Nat.not_le_of_lt hj), Blk.mul_zero]
  rw [e]
  exact isGroup_enc (by simpa using h1) (by simpa using h2)
/-- What a piece's helpers do not see is nothing. -/
theorem Helps.inj {n : Nat} {fr : List Nat} (h : Helps n fr) (h1 : 1 ≤ n) (h2 : n ≤ 13) {x : Nat → G} (hx : ∀ i, i < n → gsum n (fun j => gen n (nth fr i) j * x j) = 0) : ∀ j, j < n → x j = 0 := fun j hj => by
  obtain ⟨ds, hds⟩ : ∃ ds : List Blk, ds = (List.range n).map fun j => Blk.of fun _ => x j := ⟨_, rfl⟩
  have hl : ds.length = n := by rw [hds]; simp
  have hnd : ∀ j, j < n → nth ds j = Blk.of fun _ => x j := fun j hj => by rw [hds]; exact nth_range _ hj
  have hg : isGroup (ds ++ enc ds) = true := isGroup_enc (by omega) (by omega)
  obtain ⟨a, b, c, ha, hb, hc, habc⟩ := h.three
  have hrl : (List.replicate (n + 3) (0 : Blk)).length = n + 3 := by simp
  have hz : ∀ j, j < n + 3 → nth (List.replicate (n + 3) (0 : Blk)) j = 0 := fun j hj => by rw [nth_eq (by simpa using hj)]; simp
  have key := near_groups (p := List.replicate (n + 3) (0 : Blk)) (q := ds ++ enc ds) (by omega) (by omega) (by rw [hrl, List.length_append, enc_len, hl]) (zero_group h1 h2) hg (a := a) (b := b) (c := c) (by omega) (by omega) (by omega) fun k hk k1 k2 k3 => by
    rw [hrl] at hk
    obtain ⟨i, hi, rfl⟩ := habc k hk k1 k2 k3
    rw [hz _ hk, grp_gen _ (by omega), hl]
    refine Blk.ext_at fun t ht => ?_
    rw [mulsum_at ht, Blk.zero_at ht, ← hx i hi]
    exact gsum_congr fun j hj => by rw [hnd j hj, Blk.of_at _ ht]
  have e : nth (ds ++ enc ds) j = nth (List.replicate (n + 3) (0 : Blk)) j := by rw [key]
  rw [hz j (by omega), nth_app, if_pos (by omega), hnd j hj] at e
  have : (Blk.of fun _ => x j).at 0 = (0 : Blk).at 0 := by rw [e]
  rwa [Blk.of_at _ (by omega), Blk.zero_at (by omega)] at this
theorem rows_shp {n : Nat} {fr : List Nat} (h : Helps n fr) : Shp (rowsM (genM n) fr) n n :=
  ⟨by rw [rowsM_len, h.len], fun i hi => by rw [rowsM_at (by rw [h.len]; exact hi)]; exact genM_rowlen (h.lt i hi)⟩
theorem rows_el {n : Nat} {fr : List Nat} (h : Helps n fr) {i j : Nat} (hi : i < n) (hj : j < n) : el (rowsM (genM n) fr) i j = gen n (nth fr i) j := by
  rw [← genM_el (h.lt i hi) hj]
  unfold el
  rw [rowsM_at (by rw [h.len]; exact hi)]
/-- The helpers' rows have an inverse. -/
theorem Helps.inv {n : Nat} {fr : List Nat} (h : Helps n fr) (h1 : 1 ≤ n) (h2 : n ≤ 13) : ∃ v, invM (rowsM (genM n) fr) = some v := by
  cases e : invM (rowsM (genM n) fr) with
  | some v => exact ⟨v, rfl⟩
  | none =>
    obtain ⟨x, ⟨k, hk, hx⟩, hs⟩ := invM_none (rows_shp h) e
    exact absurd (h.inj h1 h2 (x := x) (fun i hi => by rw [← hs i hi]; exact gsum_congr fun j hj => by rw [rows_el h hi hj]) k hk) hx
def invOf (n : Nat) (fr : List Nat) : List (List G) := (invM (rowsM (genM n) fr)).getD []
/-- The weights of a piece. -/
def wts (n : Nat) (fr : List Nat) (to : Nat) : List G := (List.range n).map fun k => gsum n fun j => gen n to j * el (invOf n fr) j k
theorem wts_len (n : Nat) (fr : List Nat) (to : Nat) : (wts n fr to).length = n := by simp [wts]
theorem Helps.inv_eq {n : Nat} {fr : List Nat} (h : Helps n fr) (h1 : 1 ≤ n) (h2 : n ≤ 13) : invM (rowsM (genM n) fr) = some (invOf n fr) := by
  obtain ⟨v, hv⟩ := h.inv h1 h2
  rw [invOf, hv]; rfl
/-- The weights solve the equations. -/
theorem Helps.solves {n : Nat} {fr : List Nat} (h : Helps n fr) (h1 : 1 ≤ n) (h2 : n ≤ 13) {to : Nat} {j : Nat} (hj : j < n) : gsum n (fun k => nth (wts n fr to) k * gen n (nth fr k) j) = gen n to j := by
  obtain ⟨_, hl, _⟩ := invM_some (rows_shp h) (h.inv_eq h1 h2)
  rw [gsum_congr (g := fun k => (gsum n fun i => gen n to i * el (invOf n fr) i k) * el (rowsM (genM n) fr) k j) fun k hk => by
    rw [rows_el h hk hj]; congr 1; exact nth_range _ hk]
  rw [gsum_assoc, gsum_congr (g := fun i => gen n to i * dlt i j) fun i hi => by rw [hl i hi j hj]]
  exact gsum_dlt' hj _
/-- A piece is the combination of its helpers. -/
theorem Helps.comb {n : Nat} {fr : List Nat} (h : Helps n fr) (h1 : 1 ≤ n) (h2 : n ≤ 13) {ds : List Blk} (hl : ds.length = n) {to : Nat} (hto : to < n + 3) {bs : List Blk} (hb : ∀ k, k < n → nth bs k = nth (ds ++ enc ds) (nth fr k)) : comb (wts n fr to) bs n = nth (ds ++ enc ds) to := by
  subst hl
  unfold Go.Proofs.Ytlcddlipcdimeaa.comb
  rw [bsum_congr (g := fun k => nth (wts ds.length fr to) k * bsum ds.length fun j => gen ds.length (nth fr k) j * nth ds j) fun k hk => by rw [hb k hk, grp_gen _ (h.lt k hk)]]
  rw [bsum_assoc, grp_gen _ hto]
  exact bsum_congr fun j hj => by rw [h.solves h1 h2 hj]
end Go.Proofs.Ytlcddlipcdimeaa
namespace Go.Proofs.Ytlcddlipcdimeaa
open Go.RowKit
/-- The equations. -/
def eqM (n : Nat) (fr : List Nat) (to : Nat) : List (List G) := (List.range n).map fun i => (List.range n).map (fun k => gen n (nth fr k) i) ++ [gen n to i]
/-- What holds when c columns are done. -/
structure RInv (W : Nat → G) (a : List (List G)) (n c : Nat) : Prop where
  shp : Shp a n (n + 1)
  sol : ∀ i, i < n → gsum n (fun k => el a i k * W k) = el a i n
  ker : ∀ x : Nat → G, (∀ i, i < n → gsum n (fun j => el a i j * x j) = 0) → ∀ j, j < n → x j = 0
  one : ∀ i, i < n → ∀ j, j < c → el a i j = dlt i j
variable {W : Nat → G} {a : List (List G)} {n c q : Nat}
theorem eqM_len (n : Nat) (fr : List Nat) (to : Nat) : (eqM n fr to).length = n := by simp [eqM]
theorem eqM_row {n : Nat} (fr : List Nat) (to : Nat) {i : Nat} (hi : i < n) : nth (eqM n fr to) i = (List.range n).map (fun k => gen n (nth fr k) i) ++ [gen n to i] := nth_range _ hi
theorem eqM_el {n : Nat} {fr : List Nat} {to i k : Nat} (hi : i < n) (hk : k < n) : el (eqM n fr to) i k = gen n (nth fr k) i := by
  unfold el
  rw [eqM_row _ _ hi, nth_app, if_pos (by simpa using hk)]; exact nth_range _ hk
theorem eqM_last {n : Nat} {fr : List Nat} {to i : Nat} (hi : i < n) : el (eqM n fr to) i n = gen n to i := by
  unfold el
  rw [eqM_row _ _ hi, nth_app, if_neg (by simp)]; simp [nth]
theorem eqM_inv {n : Nat} {fr : List Nat} (h : Helps n fr) (h1 : 1 ≤ n) (h2 : n ≤ 13) (to : Nat) : RInv (nth (wts n fr to)) (eqM n fr to) n 0 := by
  obtain ⟨_, _, hr⟩ := invM_some (rows_shp h) (h.inv_eq h1 h2)
  refine ⟨⟨eqM_len _ _ _, fun i hi => by rw [eqM_row _ _ hi]; simp⟩, fun i hi => ?_, fun x hx k hk => ?_, fun i _ j hj => absurd hj (by omega)⟩
  · rw [eqM_last hi, ← h.solves h1 h2 hi]
    exact gsum_congr fun k hk => by rw [eqM_el hi hk, G.mul_comm]
  · have e1 : gsum n (fun i => gsum n (fun j => x j * el (rowsM (genM n) fr) j i) * el (invOf n fr) i k) = x k := by
      rw [gsum_assoc, gsum_congr (g := fun j => x j * dlt j k) fun j hj => by rw [hr j hj k hk]]
      exact gsum_dlt' hk x
    rw [← e1]
    refine gsum_zero fun i hi => ?_
    have : gsum n (fun j => x j * el (rowsM (genM n) fr) j i) = 0 := by
      rw [← hx i hi]; exact gsum_congr fun j hj => by rw [eqM_el hi hj, rows_el h hj hi, G.mul_comm]
    rw [this, G.zero_mul]
theorem swp_rinv (h : RInv W a n c) (hc : c < n) (hq : q < n) (hcq : c ≤ q) : RInv W (swp a c q) n c := by
  have E := fun i j => swp_el h.shp hc hq i j
  refine ⟨swp_shp h.shp hc hq, fun i hi => ?_, fun x hx => h.ker x fun i hi => ?_, fun i hi j hj => ?_⟩
  · rw [E]
    by_cases e : i = q
    · rw [if_pos e, ← h.sol c hc]; exact gsum_congr fun k _ => by rw [E, if_pos e]
    · by_cases e2 : i = c
      · rw [if_neg e, if_pos e2, ← h.sol q hq]; exact gsum_congr fun k _ => by rw [E, if_neg e, if_pos e2]
      · rw [if_neg e, if_neg e2, ← h.sol i hi]; exact gsum_congr fun k _ => by rw [E, if_neg e, if_neg e2]
  · by_cases e2 : i = c
    · have := hx q hq
      rw [e2, ← this]; exact gsum_congr fun k _ => by rw [E, if_pos rfl]
    · by_cases e : i = q
      · have := hx c hc
        rw [e, ← this]
        refine gsum_congr fun k _ => ?_
        rw [E]
        by_cases e3 : c = q
        · rw [if_pos e3, e3]
        · rw [if_neg e3, if_pos rfl]
      · rw [← hx i hi]; exact gsum_congr fun k _ => by rw [E, if_neg e, if_neg e2]
  · rw [E]
    by_cases e : i = q
    · rw [if_pos e, h.one c hc j hj, dlt_ne (by omega), dlt_ne (by omega)]
    · by_cases e2 : i = c
      · rw [if_neg e, if_pos e2, h.one q hq j hj, dlt_ne (by omega), dlt_ne (by omega)]
      · rw [if_neg e, if_neg e2, h.one i hi j hj]
theorem nrm_rinv (h : RInv W a n c) (hc : c < n) (hp : el a c c ≠ 0) : RInv W (nrm a (n + 1) c) n c ∧ el (nrm a (n + 1) c) c c = 1 := by
  have E := fun i j (hj : j < n + 1) => nrm_el h.shp hc i hj
  have hm := mul_ginv hp
  refine ⟨⟨nrm_shp h.shp hc, fun i hi => ?_, fun x hx => h.ker x fun i hi => ?_, fun i hi j hj => ?_⟩, ?_⟩
  · rw [E i n (by omega)]
    by_cases e : i = c
    · rw [if_pos e, ← h.sol c hc, mul_gsum]; exact gsum_congr fun k hk => by rw [E i k (by omega), if_pos e, G.mul_assoc]
    · rw [if_neg e, ← h.sol i hi]; exact gsum_congr fun k hk => by rw [E i k (by omega), if_neg e]
  · by_cases e : i = c
    · have h1 := hx c hc
      have h2 : gsum n (fun j => el (nrm a (n + 1) c) c j * x j) = ginv (el a c c) * gsum n (fun j => el a c j * x j) := by
        rw [mul_gsum]; exact gsum_congr fun k hk => by rw [E c k (by omega), if_pos rfl, G.mul_assoc]
      rw [h2] at h1
      rcases mul_eq_zero_iff.1 h1 with h3 | h3
      · exact absurd h3 (ginv_ne hp)
      · rw [e]; exact h3
    · rw [← hx i hi]; exact gsum_congr fun k hk => by rw [E i k (by omega), if_neg e]
  · rw [E i j (by omega)]
    by_cases e : i = c
    · rw [if_pos e, h.one c hc j hj, dlt_ne (by omega), G.mul_zero, dlt_ne (by omega)]
    · rw [if_neg e, h.one i hi j hj]
  · rw [E c c (by omega), if_pos rfl, G.mul_comm]; exact hm
theorem elm_rinv (h : RInv W a n c) (hc : c < n) (hp : el a c c = 1) : RInv W (elm a n c n) n (c + 1) := by
  have E := fun i j (hi : i < n) (hj : j < n + 1) => elm_el h.shp hc hi hj
  refine ⟨elm_shp h.shp hc, fun i hi => ?_, fun x hx => h.ker x fun i hi => ?_, fun i hi j hj => ?_⟩
  · rw [E i n hi (by omega)]
    by_cases e : i = c
    · rw [if_pos e, ← h.sol c hc]; exact gsum_congr fun k hk => by rw [E i k hi (by omega), if_pos e]
    · rw [if_neg e, ← h.sol i hi, ← h.sol c hc, mul_gsum, ← gsum_add]; exact gsum_congr fun k hk => by rw [E i k hi (by omega), if_neg e, G.add_mul, G.mul_assoc]
  · have h1 : gsum n (fun j => el a c j * x j) = 0 := by
      rw [← hx c hc]; exact gsum_congr fun k hk => by rw [E c k hc (by omega), if_pos rfl]
    by_cases e : i = c
    · rw [e]; exact h1
    · have h2 := hx i hi
      have h3 : gsum n (fun j => el (elm a n c n) i j * x j) = gsum n (fun j => el a i j * x j) + el a i c * gsum n (fun j => el a c j * x j) := by
        rw [mul_gsum, ← gsum_add]; exact gsum_congr fun k hk => by rw [E i k hi (by omega), if_neg e, G.add_mul, G.mul_assoc]
      rw [h3, h1, G.mul_zero, G.add_zero] at h2
      exact h2
  · rw [E i j hi (by omega)]
    by_cases e : i = c
    · rw [if_pos e, e]
      by_cases e2 : j = c
      · rw [e2, hp, dlt_self]
      · exact h.one c hc j (by omega)
    · rw [if_neg e]
      by_cases e2 : j = c
      · rw [e2, hp, G.mul_one, G.add_self, dlt_ne e]
      · rw [h.one i hi j (by omega), h.one c hc j (by omega), dlt_ne (i := c) (by omega), G.mul_zero, G.add_zero]
/-- There always is a pivot. -/
theorem rpvt (h : RInv W a n c) (hc : c < n) : ∃ q, pvt a n c = some q := by
  cases e : pvt a n c with
  | some q => exact ⟨q, rfl⟩
  | none =>
    have hz : ∀ i, c ≤ i → i < n → el a i c = 0 := fun i h1 h2 => by
      have := fnd_none e (i - c) (by omega)
      rw [show c + (i - c) = i from by omega] at this
      exact nz_f.1 this
    have := h.ker (fun j => if j < c then el a j c else dlt j c) (fun i hi => ?_) c hc
    · rw [if_neg (by omega), dlt_self] at this; exact absurd this one_ne_zero
    · rw [gsum_congr (g := fun j => (if j = c then el a i c else 0) + dlt i j * (if j < c then el a j c else 0)) fun j hj => ?_, gsum_add, gsum_dlt hi, gsum_one hc (f := fun j => if j = c then el a i c else 0) fun k _ hk => if_neg hk, if_pos rfl]
      · by_cases e2 : i < c
        · rw [if_pos e2, G.add_self]
        · rw [if_neg e2, hz i (by omega) hi, G.add_zero]
      · by_cases e2 : j < c
        · rw [if_pos e2, if_pos e2, if_neg (by omega), G.zero_add, h.one i hi j e2]
        · rw [if_neg e2, if_neg e2, G.mul_zero, G.add_zero]
          by_cases e3 : j = c
          · rw [if_pos e3, e3, dlt_self, G.mul_one]
          · rw [if_neg e3, dlt_ne e3, G.mul_zero]
/-- One column. -/
def rstp (a : List (List G)) (n c q : Nat) : List (List G) := elm (nrm (swp a c (c + q)) (n + 1) c) n c n
theorem rstp_inv (h : RInv W a n c) (hc : c < n) (hq : pvt a n c = some q) : c + q < n ∧ RInv W (swp a c (c + q)) n c ∧ el (swp a c (c + q)) c c ≠ 0 ∧ RInv W (rstp a n c q) n (c + 1) := by
  obtain ⟨h1, h2, _⟩ := fnd_some hq
  have hcq : c + q < n := by omega
  have hs := swp_rinv h hc hcq (by omega)
  have hp : el (swp a c (c + q)) c c ≠ 0 := by
    rw [swp_el h.shp hc hcq]
    have h3 := nz_t.1 h2
    by_cases e : c = c + q
    · rw [if_pos e]; rw [← e] at h3; exact h3
    · rw [if_neg e, if_pos rfl]; exact h3
  obtain ⟨hn, h1'⟩ := nrm_rinv hs hc hp
  exact ⟨hcq, hs, hp, elm_rinv hn hc h1'⟩
/-- At the end the last column is the solution. -/
theorem RInv.out (h : RInv W a n n) {i : Nat} (hi : i < n) : el a i n = W i := by
  rw [← h.sol i hi, gsum_congr (g := fun k => dlt i k * W k) fun k hk => by rw [h.one i hi k hk]]
  exact gsum_dlt hi W
end Go.Proofs.Ytlcddlipcdimeaa
namespace Go.Proofs.Ytlcddlipcdimeaa
open Go.RowKit
attribute [local irreducible] Calls
set_option maxRecDepth 20000 in
set_option maxHeartbeats 1000000 in
theorem combine_bad (vw vb : Value) (ws : List G) (ds : List Blk) (w : World) (h1 : Sl w 1 vw ws.length (bvs ws)) (h2 : Sl w 8 vb ds.length (kvs ds)) (hl : ws.length ≠ ds.length) :
    Calls Try.prog 15 #[vw, vb] w fun e w' => e = .returned (.tuple #[kv 0, iv 1]) ∧ Below w.heap.size w w' := by
  obtain ⟨A, c, rfl, hcc, hm, hs⟩ := h1.open_
  obtain ⟨B, d, rfl, hcd, hmd, hsb⟩ := h2.open_
  refine calls_wcG (args := [.slice A ws.length c, .slice B ds.length d]) [.cell 4 33, .tmp 5] [] Try.func15 rfl Try.ntmps15 rfl rfl (H.refl w) ?_
  (refine WC.seq ?_; intro K hK)
  refine WC.region rfl ?_
  refine WL.want rfl (WL1.alloc rfl rfl rfl rfl (fun b4 => ?_))
  refine WL.want rfl (WL1.give rfl (g_assign rfl (.mk (v := .int _ _) rfl rfl)) ?_)
  refine WL.nil ?_
  (refine hK _ _ ?_; clear hK)
  (refine WC.seq ?_; intro K hK)
  refine WC.region rfl ?_
  refine WL.want rfl (WL1.alloc rfl rfl rfl rfl (fun b6 => ?_))
  refine WL.nil ?_
  (refine hK _ _ ?_; clear hK)
  (refine WC.seq ?_; intro K hK)
  (refine WC.seq ?_; intro K hK)
  refine WC.region rfl ?_
  refine WL.want rfl (WL1.give rfl (g_move rfl (.mk (v := .slice _ _ _) rfl rfl)) ?_)
  refine WL.want rfl (WL1.give rfl (g_len rfl (.mk rfl rfl) rfl) ?_)
  refine WL.want rfl (WL1.give rfl (g_move rfl (.mk (v := .slice _ _ _) rfl rfl)) ?_)
  refine WL.want rfl (WL1.give rfl (g_len rfl (.mk rfl rfl) rfl) ?_)
  refine WL.want rfl (WL1.give rfl (g_ne rfl (.mk rfl rfl) (.mk rfl rfl) (decide_eq_true (by omega))) ?_)
  refine WL.nil ?_
  (refine hK _ _ ?_; clear hK)
  refine WC.cond_true (.mk rfl rfl) ?_
  (refine WC.seq ?_; intro K hK)
  refine WC.region rfl ?_
  refine WL.want rfl (WL1.give rfl (g_loadA rfl (.mk rfl rfl) rfl rfl (rdr_pt (.head _) (fun j u h => by simpa using h))) ?_)
  refine WL.want rfl (WL1.storeAll rfl rfl (.mk rfl rfl) (.mk rfl rfl) rfl (all1 rfl) (by first | rfl | (simp [Blk.len]; done)) (.tail (.head)) ?_)
  refine WL.want rfl (WL1.give rfl (g_assign rfl (.mk (v := .int _ _) rfl rfl)) ?_)
  refine WL.nil ?_
  (refine hK _ _ ?_; clear hK)
  refine WC.ret ?_
  exact ⟨_, .cell rfl rfl rfl (sz8 0) (.tail _ (.head _)) (.tmp rfl rfl .nil), fun w' hw' => ⟨rfl, hw'.1⟩⟩
theorem comb_one (c : G) (b : Blk) : comb [c] [b] 1 = c * b := by
  show (0 : Blk) + c * b = c * b
  exact Blk.zero_add _
set_option maxRecDepth 20000 in
set_option maxHeartbeats 1000000 in
theorem times_e (b : Blk) (c : G) (w : World) : Calls Try.prog 41 #[kv b, bv c] w fun e w' => e = .returned (kv (c * b)) ∧ Below w.heap.size w w' := by
  have hcb : ∀ (v1 v2 : Value) (w' : World), Sl w' 1 v1 1 (bvs [c]) → Sl w' 8 v2 1 (kvs [b]) → Calls Try.prog 15 #[v1, v2] w' fun e w2 => e = .returned (.tuple #[kv (c * b), iv 0]) ∧ Below w'.heap.size w' w2 := fun v1 v2 w' h1 h2 => by
    have := combine_e v1 v2 [c] [b] w' h1 h2 rfl (show 1 ≤ 1000 by omega)
    rwa [show ([c] : List G).length = 1 from rfl, comb_one] at this
  have hkv : b.cells = kvs [b] := by simp [kvs]
  refine calls_wcG (args := [kv b, bv c]) [.cell 4 33] [] Try.func41 rfl Try.ntmps41 rfl rfl (H.refl w) ?_
  (refine WC.seq ?_; intro K hK)
  refine WC.region rfl ?_
  refine WL.want rfl (WL1.box rfl rfl (.mk (v := .agg _) rfl rfl) rfl (fun b2 => ?_))
  refine WL.want rfl (WL1.alloc rfl rfl rfl rfl (fun b4 => ?_))
  refine WL.nil ?_
  (refine hK _ _ ?_; clear hK)
  (refine WC.seq ?_; intro K hK)
  refine WC.region rfl ?_
  refine WL.want rfl (WL1.give rfl (g_move rfl (.mk (v := .int _ _) rfl rfl)) ?_)
  refine WL.want rfl (WL1.lit (cs := [_]) elB rfl rfl rfl (.cons (.mk (v := .int _ _) rfl rfl) .nil) rfl (by first | (simp [Value.cells]; done) | fail) rfl rfl (fun b9 => ?_))
  refine WL.want rfl (WL1.give rfl (g_loadA rfl (.mk rfl rfl) rfl (sz8 _) (rdr_pt (by repeat (first | exact .head _ | apply List.Mem.tail)) (fun j u h => by simpa using h))) ?_)
  refine WL.want rfl (WL1.lit elK rfl rfl rfl (.cons (.mk (v := .agg _) rfl rfl) .nil) rfl (by first | (simp [Value.cells, Blk.len]; done) | fail) (List.append_nil _) rfl (fun b11 => ?_))
  refine WL.want rfl (WL1.callP rfl rfl rfl (.cons (.mk (v := .slice _ _ _) rfl rfl) (.cons (.mk (v := .slice _ _ _) rfl rfl) .nil)) (fun w hw => hcb _ _ w (Sl.of_vec hw (by repeat (first | exact .head _ | apply List.Mem.tail))) (Sl.of_vecE hw (by repeat (first | exact .head _ | apply List.Mem.tail)) rfl hkv)) ?_)
  refine WL.want rfl (WL1.give rfl (g_move rfl (.mk (v := .tuple _) rfl rfl)) ?_)
  refine WL.want rfl (WL1.give rfl (g_extract rfl (.mk rfl rfl) rfl) ?_)
  refine WL.want rfl (WL1.give rfl (g_extract rfl (.mk rfl rfl) rfl) ?_)
  refine WL.want rfl (WL1.alloc rfl rfl rfl rfl (fun b5 => ?_))
  refine WL.want rfl (WL1.storeAll rfl rfl (.mk rfl rfl) (.mk rfl rfl) rfl (all1 rfl) (by first | rfl | (simp [Blk.len]; done)) (.head) ?_)
  refine WL.want rfl (WL1.give rfl (g_assign rfl (.mk (v := .int _ _) rfl rfl)) ?_)
  refine WL.nil ?_
  (refine hK _ _ ?_; clear hK)
  (refine WC.seq ?_; intro K hK)
  refine WC.region rfl ?_
  refine WL.want rfl (WL1.give rfl (g_loadA rfl (.mk rfl rfl) rfl rfl (rdr_pt (by repeat (first | exact .head _ | apply List.Mem.tail)) (fun j u h => by simpa using h))) ?_)
  refine WL.want rfl (WL1.storeAll rfl rfl (.mk rfl rfl) (.mk rfl rfl) rfl (all1 rfl) (by first | rfl | (simp [Blk.len]; done)) (.tail (.tail (.tail (.head)))) ?_)
  refine WL.nil ?_
  (refine hK _ _ ?_; clear hK)
  refine WC.ret ?_
  all_goals exact ⟨_, .cell rfl rfl rfl (sz8 _) (by repeat (first | exact .head _ | apply List.Mem.tail)) .nil, fun w' hw' => ⟨rfl, hw'.1⟩⟩
end Go.Proofs.Ytlcddlipcdimeaa
namespace Go.Proofs.Ytlcddlipcdimeaa
open Go.RowKit
attribute [local irreducible] Calls
/-- The first m syndromes are done, the rest is the data's parity. -/
def synP (ps : List Blk) (m : Nat) : List Blk := (List.range 3).map fun j => if j < m then nth (enc (ps.take (ps.length - 3))) j + nth ps (ps.length - 3 + j) else nth (enc (ps.take (ps.length - 3))) j
def synL (ps : List Blk) : List Blk := synP ps 3
theorem synP_len (ps : List Blk) (m : Nat) : (synP ps m).length = 3 := by simp [synP]
theorem synP_nth (ps : List Blk) (m : Nat) {j : Nat} (h : j < 3) : nth (synP ps m) j = if j < m then nth (enc (ps.take (ps.length - 3))) j + nth ps (ps.length - 3 + j) else nth (enc (ps.take (ps.length - 3))) j := nth_range _ h
theorem synP_zero (ps : List Blk) : synP ps 0 = enc (ps.take (ps.length - 3)) := list_ext_nth (by rw [synP_len]; rfl) fun j hj => by
  rw [synP_nth _ _ (by rw [synP_len] at hj; exact hj), if_neg (by omega)]
theorem synP_set {ps : List Blk} {m : Nat} (h : m < 3) : (synP ps m).set m (nth (synP ps m) m + nth ps (ps.length - 3 + m)) = synP ps (m + 1) :=
  list_ext_nth (by rw [List.length_set, synP_len, synP_len]) fun q hq => by
    have hq3 : q < 3 := by rw [List.length_set, synP_len] at hq; exact hq
    rw [nth_set_eq (by rw [synP_len]; exact h), synP_nth _ _ h, synP_nth _ _ hq3, synP_nth _ _ hq3]
    by_cases e : q = m
    · subst e; rw [if_pos rfl, if_neg (by omega), if_pos (by omega)]
    · rw [if_neg e]
      by_cases e2 : q < m
      · rw [if_pos e2, if_pos (by omega)]
      · rw [if_neg e2, if_neg (by omega)]
theorem synL_nth {ps : List Blk} (h : 3 ≤ ps.length) {j : Nat} (hj : j < 3) : nth (synL ps) j = syn (ps.length - 3) (nth ps) j := by
  rw [synL, synP_nth _ _ hj, if_pos hj, syn_list (by omega) hj, enc_nth _ hj]
set_option maxRecDepth 20000 in
set_option maxHeartbeats 1000000 in
theorem rsyndromes_n (v : Value) (ps : List Blk) (w : World) (hv : Sl w 8 v ps.length (kvs ps)) (h1 : 4 ≤ ps.length) (h2 : ps.length ≤ 20) :
    Calls Try.prog 24 #[v] w fun e w' => ∃ v' M, e = .returned v' ∧ H w M w' ∧ ∃ b, v' = .slice (some ⟨b, 0, none⟩) 3 3 ∧ M = [vec (some ⟨b, 0, none⟩) 3 3 33 8 (kvs (synL ps))] := by
  obtain ⟨A, c, rfl, hc, hm, hs⟩ := hv.open_
  obtain ⟨n, hn⟩ : ∃ n, n = ps.length - 3 := ⟨_, rfl⟩
  have hpar : ∀ (v : Value) (w' : World), Sl w' 8 v n (kvs (ps.take n)) → Calls Try.prog 40 #[v] w' fun e w2 => ∃ v' M, e = .returned v' ∧ H w' M w2 ∧ ∃ b, v' = .slice (some ⟨b, 0, none⟩) 3 3 ∧ M = [vec (some ⟨b, 0, none⟩) 3 3 33 8 (kvs (synP ps 0))] := fun v w' h => by
    have hl : (ps.take n).length = n := by rw [List.length_take]; omega
    rw [synP_zero, ← hn]
    exact parity_n v (ps.take n) w' (by rw [hl]; exact h) (by omega)
  have hsub : IntKind.i64.wrap ((ps.length : Int) - 3) = (n : Int) := by rw [IntWalk.i64_in _ (by omega)]; omega
  have htk : ∀ w', Below w.heap.size w w' → Sl w' 8 (.slice (subA A c 0 8) (n - 0) (c - 0)) n (kvs (ps.take n)) := fun w' hb => by
    have := Sl.blks (l := 0) (h := n) (hs.below hb) rfl (by omega) (by omega)
    rwa [List.drop_zero, Nat.sub_zero, List.length_take, Nat.min_eq_left (by omega)] at this
  refine calls_wc (args := [.slice A ps.length c]) [2] [] Try.func24 rfl Try.ntmps24 rfl rfl rfl rfl (H.refl w) ?_
  (refine WC.seq ?_; intro K hK)
  refine WC.region rfl ?_
  refine WL.want rfl (WL1.give rfl (g_assign rfl (.mk (v := .slice _ _ _) rfl rfl)) ?_)
  refine WL.nil ?_
  (refine hK _ _ ?_; clear hK)
  (refine WC.seq ?_; intro K hK)
  refine WC.region rfl ?_
  refine WL.want rfl (WL1.give rfl (g_move rfl (.mk (v := .slice _ _ _) rfl rfl)) ?_)
  refine WL.want rfl (WL1.give rfl (g_len rfl (.mk rfl rfl) rfl) ?_)
  refine WL.want rfl (WL1.give rfl (g_sub rfl (.mk rfl rfl) (.mk rfl rfl) hsub) ?_)
  refine WL.want rfl (WL1.give rfl (g_assign rfl (.mk (v := .int _ _) rfl rfl)) ?_)
  refine WL.nil ?_
  (refine hK _ _ ?_; clear hK)
  (refine WC.seq ?_; intro K hK)
  refine WC.region rfl ?_
  refine WL.want rfl (WL1.give rfl (g_move rfl (.mk (v := .slice _ _ _) rfl rfl)) ?_)
  refine WL.want rfl (WL1.give rfl (g_move rfl (.mk (v := .int _ _) rfl rfl)) ?_)
  refine WL.want rfl (WL1.give rfl (g_slice (sz := 8) (kl := .i64) (p := 0) rfl (.mk rfl rfl) rfl rfl rfl ⟨(.mk rfl rfl), rfl⟩ (by omega) (by omega)) ?_)
  (refine WL.want rfl (WL1.callN rfl rfl rfl (.cons (.mk (v := .slice _ _ _) rfl rfl) .nil) (fun w hw => hpar _ w (htk w hw.1)) ?_); rintro _ _ ⟨b, rfl, rfl⟩)
  refine WL.want rfl (WL1.give rfl (g_assign rfl (.mk (v := .slice _ _ _) rfl rfl)) ?_)
  refine WL.nil ?_
  (refine hK _ _ ?_; clear hK)
  (refine WC.seq ?_; intro K hK)
  (refine WC.seq ?_; intro K hK)
  refine WC.region rfl ?_
  refine WL.want rfl (WL1.give rfl (g_assign rfl (.mk (v := .int _ _) rfl rfl)) ?_)
  refine WL.nil ?_
  (refine hK _ _ ?_; clear hK)
  refine WC.block ?_
  refine WC.loop (2147475488) (fun m : Nat => [(5, iv m)]) (fun m => [vec (some ⟨b, 0, none⟩) 3 3 33 8 (kvs (synP ps m))]) (fun m => m ≤ 3) (fun m => 3 - m) 0 ⟨rfl, trivial⟩ (.refl _) (by omega) ?_
  intro m U hm3
  have hul := synP_len ps m
  by_cases hlt : m < 3
  · have hadd : IntKind.i64.wrap ((n : Int) + (m : Int)) = ((n + m : Nat) : Int) := by rw [IntWalk.i64_in _ (by omega)]; omega
    have hgd : ∀ j u, (nth ps (n + m)).cells[j]? = some u → (kvs ps)[(n + m) * 8 + j]? = some u := fun j u h => flat_row blk8 (by omega) j u h
    have hlx : (kvs (synP ps m)).length = 3 * 8 := by rw [kvs_len, hul]
    (refine WC.seq ?_; intro K hK)
    (refine WC.seq ?_; intro K hK)
    refine WC.region rfl ?_
    refine WL.want rfl (WL1.give rfl (g_move rfl (.mk (v := .int _ _) rfl rfl)) ?_)
    refine WL.want rfl (WL1.give rfl (g_lt rfl (.mk rfl rfl) (.mk rfl rfl) (decide_eq_true (by omega))) ?_)
    refine WL.nil ?_
    (refine hK _ _ ?_; clear hK)
    refine WC.cond_true (.mk rfl rfl) ?_
    refine WC.skip ?_
    (refine hK _ _ ?_; clear hK)
    (refine WC.seq ?_; intro K hK)
    refine WC.block ?_
    refine WC.until [vec (some ⟨b, 0, none⟩) 3 3 33 8 (kvs (synP ps m))] [14] rfl (by kernel_rfl) ?_
    refine WB.takeP 0 rfl (by decide +kernel) (by decide +kernel) (by decide +kernel) (by decide +kernel) rfl rfl (.inr (Imp.sub (by first | ((repeat (first | exact List.nil_sublist _ | exact List.Sublist.refl _ | apply List.Sublist.cons_cons | apply List.Sublist.cons)); done) | fail))) (g_move rfl (.mk (v := .slice _ _ _) rfl rfl)) ?_
    refine WB.takeP 1 rfl (by decide +kernel) (by decide +kernel) (by decide +kernel) (by decide +kernel) rfl rfl (.inr (Imp.sub (by first | ((repeat (first | exact List.nil_sublist _ | exact List.Sublist.refl _ | apply List.Sublist.cons_cons | apply List.Sublist.cons)); done) | fail))) (g_move rfl (.mk (v := .int _ _) rfl rfl)) ?_
    refine WB.takeP 2 rfl (by decide +kernel) (by decide +kernel) (by decide +kernel) (by decide +kernel) rfl rfl (.inr (Imp.sub (by first | ((repeat (first | exact List.nil_sublist _ | exact List.Sublist.refl _ | apply List.Sublist.cons_cons | apply List.Sublist.cons)); done) | fail))) (g_move rfl (.mk (v := .slice _ _ _) rfl rfl)) ?_
    refine WB.takeP 3 rfl (by decide +kernel) (by decide +kernel) (by decide +kernel) (by decide +kernel) rfl rfl (.inr (Imp.sub (by first | ((repeat (first | exact List.nil_sublist _ | exact List.Sublist.refl _ | apply List.Sublist.cons_cons | apply List.Sublist.cons)); done) | fail))) (g_move rfl (.mk (v := .int _ _) rfl rfl)) ?_
    refine WB.takeP 4 rfl (by decide +kernel) (by decide +kernel) (by decide +kernel) (by decide +kernel) rfl rfl (.inr (Imp.sub (by first | ((repeat (first | exact List.nil_sublist _ | exact List.Sublist.refl _ | apply List.Sublist.cons_cons | apply List.Sublist.cons)); done) | fail))) (g_indexAddr (sz := 8) rfl (.mk rfl rfl) (.mk rfl rfl) rfl rfl rfl (by omega) (fun _ _ => rfl)) ?_
    refine WB.take 5 rfl (by decide +kernel) (by decide +kernel) (by decide +kernel) (by decide +kernel) rfl rfl (Imp.sub (by first | ((repeat (first | exact List.nil_sublist _ | exact List.Sublist.refl _ | apply List.Sublist.cons_cons | apply List.Sublist.cons)); done) | fail)) (g_loadA rfl (.mk rfl rfl) rfl (sz8 _) (rdr_vec (.head _) (by omega) (flat_row (by first | assumption | exact fun _ _ => rfl | exact blk8) (by omega)))) ?_
    refine WB.takeP 6 rfl (by decide +kernel) (by decide +kernel) (by decide +kernel) (by decide +kernel) rfl rfl (.inr (Imp.sub (by first | ((repeat (first | exact List.nil_sublist _ | exact List.Sublist.refl _ | apply List.Sublist.cons_cons | apply List.Sublist.cons)); done) | fail))) (g_move rfl (.mk (v := .slice _ _ _) rfl rfl)) ?_
    refine WB.takeP 7 rfl (by decide +kernel) (by decide +kernel) (by decide +kernel) (by decide +kernel) rfl rfl (.inr (Imp.sub (by first | ((repeat (first | exact List.nil_sublist _ | exact List.Sublist.refl _ | apply List.Sublist.cons_cons | apply List.Sublist.cons)); done) | fail))) (g_move rfl (.mk (v := .int _ _) rfl rfl)) ?_
    refine WB.takeP 8 rfl (by decide +kernel) (by decide +kernel) (by decide +kernel) (by decide +kernel) rfl rfl (.inr (Imp.sub (by first | ((repeat (first | exact List.nil_sublist _ | exact List.Sublist.refl _ | apply List.Sublist.cons_cons | apply List.Sublist.cons)); done) | fail))) (g_move rfl (.mk (v := .int _ _) rfl rfl)) ?_
    refine WB.takeP 9 rfl (by decide +kernel) (by decide +kernel) (by decide +kernel) (by decide +kernel) rfl rfl (.inr (Imp.sub (by first | ((repeat (first | exact List.nil_sublist _ | exact List.Sublist.refl _ | apply List.Sublist.cons_cons | apply List.Sublist.cons)); done) | fail))) (g_add rfl (.mk rfl rfl) (.mk rfl rfl) hadd) ?_
    refine WB.takeP 10 rfl (by decide +kernel) (by decide +kernel) (by decide +kernel) (by decide +kernel) rfl rfl (.inr (Imp.sub (by first | ((repeat (first | exact List.nil_sublist _ | exact List.Sublist.refl _ | apply List.Sublist.cons_cons | apply List.Sublist.cons)); done) | fail))) (g_indexAddr (sz := 8) rfl (.mk rfl rfl) (.mk rfl rfl) rfl rfl rfl (by omega) (fun _ _ => sl_some hs (by omega))) ?_
    refine WB.take 11 rfl (by decide +kernel) (by decide +kernel) (by decide +kernel) (by decide +kernel) rfl rfl (Imp.sub (by first | ((repeat (first | exact List.nil_sublist _ | exact List.Sublist.refl _ | apply List.Sublist.cons_cons | apply List.Sublist.cons)); done) | fail)) (g_loadA rfl (.mk rfl rfl) rfl (sz8 _) (rdr_sl hs (by omega) hgd)) ?_
    refine WB.one 12 (by decide +kernel) rfl rfl ?_
    refine WL1.callP rfl rfl rfl (.cons (.mk (v := .agg _) rfl rfl) (.cons (.mk (v := .agg _) rfl rfl) .nil)) (fun w hw => xor_e (nth (synP ps m) m) (nth ps (n + m)) w) ?_
    refine WL.nil ?_
    refine ⟨.inr (Imp.sub (by first | ((repeat (first | exact List.nil_sublist _ | exact List.Sublist.refl _ | apply List.Sublist.cons_cons | apply List.Sublist.cons)); done) | fail)), ?_⟩
    refine WB.takeP 13 rfl (by decide +kernel) (by decide +kernel) (by decide +kernel) (by decide +kernel) rfl rfl (.inr (Imp.sub (by first | ((repeat (first | exact List.nil_sublist _ | exact List.Sublist.refl _ | apply List.Sublist.cons_cons | apply List.Sublist.cons)); done) | fail))) (g_indexAddr (sz := 8) rfl (.mk rfl rfl) (.mk rfl rfl) rfl rfl rfl (by omega) (fun _ _ => rfl)) ?_
    refine WB.one 14 (by decide +kernel) rfl rfl ?_
    refine WL1.storeVA rfl rfl (.mk rfl rfl) (.mk rfl rfl) rfl (all1 rfl) (by first | decide | omega | exact Nat.le_of_ble_eq_true rfl | (simp; done) | (simp; omega) | (rw [Blk.len]; omega)) (by first | omega | (rw [Blk.len]; omega) | (simp; done) | (simp; omega)) (.head) ?_
    refine WL.nil ?_
    refine ⟨.inl (by decide +kernel), ?_⟩
    refine WB.done (by decide +kernel) ?_
    (refine hK _ _ ?_; clear hK)
    refine WC.region rfl ?_
    refine WL.want rfl (WL1.give rfl (g_move rfl (.mk (v := .int _ _) rfl rfl)) ?_)
    refine WL.want rfl (WL1.give rfl (g_add rfl (.mk rfl rfl) (.mk rfl rfl) (IntWalk.i64_in _ (by omega))) ?_)
    refine WL.want rfl (WL1.give rfl (g_assign rfl (.mk (v := .int _ _) rfl rfl)) ?_)
    refine WL.nil ?_
    exact ⟨m + 1, (by repeat (first | with_reducible exact Out.refl _ _ | refine Out.set rfl ?_ | refine Out.put rfl ?_ | refine Out.sets rfl ?_ | refine Out.hav rfl ?_ | exact Out.refl _ _)), ⟨rfl, trivial⟩, subV (by rw [hn]; exact (kvs_spl (by omega) (by omega) rfl).trans (congrArg kvs (synP_set hlt))) (.refl _), by omega, by omega⟩
  · obtain rfl : m = 3 := by omega
    (refine WC.seq ?_; intro K hK)
    (refine WC.seq ?_; intro K hK)
    refine WC.region rfl ?_
    refine WL.want rfl (WL1.give rfl (g_move rfl (.mk (v := .int _ _) rfl rfl)) ?_)
    refine WL.want rfl (WL1.give rfl (g_lt rfl (.mk rfl rfl) (.mk rfl rfl) (decide_eq_false (by omega))) ?_)
    refine WL.nil ?_
    (refine hK _ _ ?_; clear hK)
    refine WC.cond_false (.mk rfl rfl) ?_
    refine WC.exit ?_
    (clear hK; refine hK _ _ ?_; clear hK)
    (refine WC.seq ?_; intro K hK)
    refine WC.region rfl ?_
    refine WL.want rfl (WL1.give rfl (g_move rfl (.mk (v := .slice _ _ _) rfl rfl)) ?_)
    refine WL.want rfl (WL1.give rfl (g_assign rfl (.mk (v := .slice _ _ _) rfl rfl)) ?_)
    refine WL.nil ?_
    (refine hK _ _ ?_; clear hK)
    refine WC.ret ?_
    exact fun w' hw' => ⟨_, _, rfl, hw', b, rfl, rfl⟩
end Go.Proofs.Ytlcddlipcdimeaa
namespace Go.Proofs.Ytlcddlipcdimeaa
open Go.RowKit
attribute [local irreducible] Calls
/-- A list of numbers. -/
def ivs (l : List Int) : List Value := l.map (Value.int .i64)
theorem ivs_len (l : List Int) : (ivs l).length = l.length := by simp [ivs]
theorem ivs_get {l : List Int} {k : Nat} (h : k < l.length) : (ivs l)[k * 1]? = some (iv (nth l k)) := by unfold ivs; exact get1 h
def ldv (ld : List Nat) : List Value := ld.map fun k : Nat => iv k
theorem ldv_len (ld : List Nat) : (ldv ld).length = ld.length := by simp [ldv]
theorem ldv_get {ld : List Nat} {k : Nat} (h : k < ld.length) : (ldv ld)[k * 1]? = some (iv ((nth ld k : Nat) : Int)) := by unfold ldv; exact get1 (f := fun k : Nat => iv k) h
theorem ldv_one (ld : List Nat) : ∀ u ∈ ldv ld, u.oneCell' = true := by intro u hu; simp only [ldv, List.mem_map] at hu; obtain ⟨x, _, rfl⟩ := hu; rfl
theorem ivs_one (l : List Int) : ∀ u ∈ ivs l, u.oneCell' = true := by intro u hu; simp only [ivs, List.mem_map] at hu; obtain ⟨x, _, rfl⟩ := hu; rfl
theorem Imp.rows_join (r1 r2 : List Row) (L : List Asrt) : Imp (rowsA r1 :: rowsA r2 :: L) (rowsA (r1 ++ r2) :: L) := by
  refine Imp.trans (Imp.unbun _ _) ?_
  refine Imp.trans (Imp.perm (M := rowsA r2 :: (r1.map Row.own ++ L)) List.perm_middle) ?_
  refine Imp.trans (Imp.unbun _ _) ?_
  refine Imp.trans (Imp.perm (M := (r1 ++ r2).map Row.own ++ L) ?_) (Imp.bun _ _)
  rw [List.map_append, ← List.append_assoc]
  exact List.perm_append_comm.append_right _
theorem matrix_m (n : Nat) (w : World) (h1 : 1 ≤ n) (h2 : n ≤ 13) : Calls Try.prog 44 #[iv n] w fun e w' => ∃ v' M, e = .returned v' ∧ H w M w' ∧
    ∃ A c rs, v' = .tuple #[.slice A rs.length c, iv 0] ∧ M = matM A c rs ∧ els rs = matx n ∧ rs.length = 3 :=
  (matrix_n n w h1 h2).mono fun e w' ⟨v', M, he, hM, A, c, rs, hv, hM2, hr, hl⟩ => ⟨v', matM A c rs, he, by
    subst hM2
    refine Imp.h (Imp.cons ?_) hM
    have := Imp.rows_of rs []
    rwa [List.append_nil] at this, A, c, rs, by rw [hl]; exact hv, rfl, hr, hl⟩
set_option maxRecDepth 20000 in
set_option maxHeartbeats 1000000 in
theorem generator_n (m n : Nat) (w : World) (hm : m = n + 3) (h1 : 1 ≤ n) (h2 : n ≤ 13) : Calls Try.prog 29 #[iv m] w fun e w' => ∃ v' M, e = .returned v' ∧ H w M w' ∧
    ∃ A c rs, v' = .slice A rs.length c ∧ M = matM A c rs ∧ els rs = genM n ∧ rs.length = m := by
  have hsub : IntKind.i64.wrap ((m : Int) - 3) = (n : Int) := by rw [IntWalk.i64_in _ (by omega)]; omega
  refine calls_wc (args := [iv m]) [2] [] Try.func29 rfl Try.ntmps29 rfl rfl rfl rfl (H.refl w) ?_
  (refine WC.seq ?_; intro K hK)
  refine WC.region rfl ?_
  refine WL.want rfl (WL1.give rfl (g_assign rfl (.mk (v := .slice _ _ _) rfl rfl)) ?_)
  refine WL.nil ?_
  (refine hK _ _ ?_; clear hK)
  (refine WC.seq ?_; intro K hK)
  refine WC.region rfl ?_
  refine WL.want rfl (WL1.give rfl (g_move rfl (.mk (v := .int _ _) rfl rfl)) ?_)
  refine WL.want rfl (WL1.give rfl (g_sub rfl (.mk rfl rfl) (.mk rfl rfl) hsub) ?_)
  (refine WL.want rfl (WL1.callN rfl rfl rfl (.cons (.mk (v := .int _ _) rfl rfl) .nil) (fun w hw => identity_n n w (by omega) (by omega)) ?_); rintro _ _ ⟨A1, c1, r1, rfl, rfl, hr1, hl1⟩)
  refine WL.want rfl (WL1.give rfl (g_move rfl (.mk (v := .tuple _) rfl rfl)) ?_)
  refine WL.want rfl (WL1.give rfl (g_extract rfl (.mk rfl rfl) rfl) ?_)
  refine WL.want rfl (WL1.give rfl (g_extract rfl (.mk rfl rfl) rfl) ?_)
  refine WL.want rfl (WL1.give rfl (g_assign rfl (.mk (v := .slice _ _ _) rfl rfl)) ?_)
  refine WL.want rfl (WL1.give rfl (g_assign rfl (.mk (v := .int _ _) rfl rfl)) ?_)
  refine WL.nil ?_
  (refine hK _ _ ?_; clear hK)
  (refine WC.seq ?_; intro K hK)
  refine WC.region rfl ?_
  refine WL.want rfl (WL1.give rfl (g_move rfl (.mk (v := .int _ _) rfl rfl)) ?_)
  refine WL.want rfl (WL1.give rfl (g_sub rfl (.mk rfl rfl) (.mk rfl rfl) hsub) ?_)
  (refine WL.want rfl (WL1.callN rfl rfl rfl (.cons (.mk (v := .int _ _) rfl rfl) .nil) (fun w hw => matrix_m n w h1 h2) ?_); rintro _ _ ⟨A2, c2, r2, rfl, rfl, hr2, hl2⟩)
  refine WL.want rfl (WL1.give rfl (g_move rfl (.mk (v := .tuple _) rfl rfl)) ?_)
  refine WL.want rfl (WL1.give rfl (g_extract rfl (.mk rfl rfl) rfl) ?_)
  refine WL.want rfl (WL1.give rfl (g_extract rfl (.mk rfl rfl) rfl) ?_)
  refine WL.want rfl (WL1.give rfl (g_assign rfl (.mk (v := .slice _ _ _) rfl rfl)) ?_)
  refine WL.want rfl (WL1.give rfl (g_assign rfl (.mk (v := .int _ _) rfl rfl)) ?_)
  refine WL.nil ?_
  (refine hK _ _ ?_; clear hK)
  (refine WC.seq ?_; intro K hK)
  refine WC.region rfl ?_
  refine WL.want rfl (WL1.give rfl (g_move rfl (.mk (v := .slice _ _ _) rfl rfl)) ?_)
  refine WL.want rfl (WL1.give rfl (g_move rfl (.mk (v := .slice _ _ _) rfl rfl)) ?_)
  refine WL.want rfl (WL1.append elR rfl rfl (.mk rfl rfl) (.mk rfl rfl) (.tail (.tail (.head))) (fun w hw => Sl.of_vec hw (.head _)) (rowv_one _) (by unfold maxLen; omega) (by omega) (fun A21 c21 => ?_))
  refine WL.want rfl (WL1.give rfl (g_assign rfl (.mk (v := .slice _ _ _) rfl rfl)) ?_)
  refine WL.nil ?_
  (refine hK _ _ ?_; clear hK)
  refine WC.ret ?_
  have hel : els (r1 ++ r2) = genM n := by unfold els at *; rw [List.map_append, hr1, hr2]; rfl
  have hln : (r1 ++ r2).length = m := by rw [List.length_append, hl1, hl2, hm]
  refine fun w' hw' => ⟨_, matM A21 c21 (r1 ++ r2), rfl, ?_, A21, c21, r1 ++ r2, by rw [List.length_append]; rfl, rfl, hel, hln⟩
  refine Imp.h ?_ hw'
  rw [matM, List.length_append, List.map_append]
  refine Imp.cons ?_
  refine Imp.trans (M := rowsA r1 :: rowsA r2 :: []) ?_ (Imp.rows_join r1 r2 [])
  exact Imp.pick (by repeat (first | exact .head | apply Take.tail)) (Imp.pick (by repeat (first | exact .head | apply Take.tail)) (Imp.nil _))
set_option maxRecDepth 20000 in
set_option maxHeartbeats 1000000 in
theorem possible_i (z : Int) (w : World) : Calls Try.prog 28 #[iv z] w fun e w' => e = .returned (.bool (decide (4 ≤ z ∧ z ≤ 16))) ∧ Below w.heap.size w w' := by
  by_cases h1 : 3 < z
  · by_cases h2 : z ≤ 16
    · refine calls_wc (args := [iv z]) [2] [] Try.func28 rfl Try.ntmps28 rfl rfl rfl rfl (H.refl w) ?_
      (refine WC.seq ?_; intro K hK)
      refine WC.region rfl ?_
      refine WL.want rfl (WL1.give rfl (g_assign rfl (.mk (v := .bool _) rfl rfl)) ?_)
      refine WL.nil ?_
      (refine hK _ _ ?_; clear hK)
      (refine WC.seq ?_; intro K hK)
      refine WC.region rfl ?_
      refine WL.want rfl (WL1.give rfl (g_move rfl (.mk (v := .int _ _) rfl rfl)) ?_)
      refine WL.want rfl (WL1.give rfl (g_gt rfl (.mk rfl rfl) (.mk rfl rfl) (decide_eq_true (by omega))) ?_)
      refine WL.want rfl (WL1.give rfl (g_move rfl (.mk (v := .bool _) rfl rfl)) ?_)
      refine WL.wantG rfl rfl rfl rfl (WL1.give rfl (g_move rfl (.mk (v := .int _ _) rfl rfl)) ?_)
      refine WL.wantG rfl rfl rfl rfl (WL1.give rfl (g_le rfl (.mk rfl rfl) (.mk rfl rfl) (decide_eq_true (by omega))) ?_)
      refine WL.want rfl (WL1.give rfl (g_pickT rfl (.mk rfl rfl) (.mk (v := .bool _) rfl rfl)) ?_)
      refine WL.want rfl (WL1.give rfl (g_assign rfl (.mk (v := .bool _) rfl rfl)) ?_)
      refine WL.nil ?_
      (refine hK _ _ ?_; clear hK)
      refine WC.ret ?_
      exact fun w' hw' => ⟨by rw [decide_eq_true (show 4 ≤ z ∧ z ≤ 16 by omega)]; rfl, hw'.1⟩
    · refine calls_wc (args := [iv z]) [2] [] Try.func28 rfl Try.ntmps28 rfl rfl rfl rfl (H.refl w) ?_
      (refine WC.seq ?_; intro K hK)
      refine WC.region rfl ?_
      refine WL.want rfl (WL1.give rfl (g_assign rfl (.mk (v := .bool _) rfl rfl)) ?_)
      refine WL.nil ?_
      (refine hK _ _ ?_; clear hK)
      (refine WC.seq ?_; intro K hK)
      refine WC.region rfl ?_
      refine WL.want rfl (WL1.give rfl (g_move rfl (.mk (v := .int _ _) rfl rfl)) ?_)
      refine WL.want rfl (WL1.give rfl (g_gt rfl (.mk rfl rfl) (.mk rfl rfl) (decide_eq_true (by omega))) ?_)
      refine WL.want rfl (WL1.give rfl (g_move rfl (.mk (v := .bool _) rfl rfl)) ?_)
      refine WL.wantG rfl rfl rfl rfl (WL1.give rfl (g_move rfl (.mk (v := .int _ _) rfl rfl)) ?_)
      refine WL.wantG rfl rfl rfl rfl (WL1.give rfl (g_le rfl (.mk rfl rfl) (.mk rfl rfl) (decide_eq_false (by omega))) ?_)
      refine WL.want rfl (WL1.give rfl (g_pickT rfl (.mk rfl rfl) (.mk (v := .bool _) rfl rfl)) ?_)
      refine WL.want rfl (WL1.give rfl (g_assign rfl (.mk (v := .bool _) rfl rfl)) ?_)
      refine WL.nil ?_
      (refine hK _ _ ?_; clear hK)
      refine WC.ret ?_
      exact fun w' hw' => ⟨by rw [decide_eq_false fun h => h2 h.2]; rfl, hw'.1⟩
  · refine calls_wc (args := [iv z]) [2] [] Try.func28 rfl Try.ntmps28 rfl rfl rfl rfl (H.refl w) ?_
    (refine WC.seq ?_; intro K hK)
    refine WC.region rfl ?_
    refine WL.want rfl (WL1.give rfl (g_assign rfl (.mk (v := .bool _) rfl rfl)) ?_)
    refine WL.nil ?_
    (refine hK _ _ ?_; clear hK)
    (refine WC.seq ?_; intro K hK)
    refine WC.region rfl ?_
    refine WL.want rfl (WL1.give rfl (g_move rfl (.mk (v := .int _ _) rfl rfl)) ?_)
    refine WL.want rfl (WL1.give rfl (g_gt rfl (.mk rfl rfl) (.mk rfl rfl) (decide_eq_false (by omega))) ?_)
    refine WL.want rfl (WL1.give rfl (g_move rfl (.mk (v := .bool _) rfl rfl)) ?_)
    refine WL.skipG rfl rfl rfl rfl rfl rfl ?_
    refine WL.skipG rfl rfl rfl rfl rfl rfl ?_
    refine WL.want rfl (WL1.give rfl (g_pickF rfl (.mk rfl rfl) (.mk (v := .bool _) rfl rfl)) ?_)
    refine WL.want rfl (WL1.give rfl (g_assign rfl (.mk (v := .bool _) rfl rfl)) ?_)
    refine WL.nil ?_
    (refine hK _ _ ?_; clear hK)
    refine WC.ret ?_
    exact fun w' hw' => ⟨by rw [decide_eq_false fun h => h1 (by omega)]; rfl, hw'.1⟩
/-- The helpers' numbers, in increasing order. -/
structure Wfr (n : Nat) (fr : List Nat) : Prop where
  len : fr.length = n
  lt : ∀ i, i < n → nth fr i < n + 3
  inc : ∀ i, i + 1 < n → nth fr i < nth fr (i + 1)
theorem incr_lt {fr : List Nat} {n : Nat} (inc : ∀ i, i + 1 < n → nth fr i < nth fr (i + 1)) : ∀ d i, i + d + 1 < n → nth fr i < nth fr (i + d + 1)
  | 0, i, h => inc i h
  | d + 1, i, h => Nat.lt_trans (incr_lt inc d i (by omega)) (inc (i + d + 1) (by omega))
theorem Wfr.helps {n : Nat} {fr : List Nat} (h : Wfr n fr) : Helps n fr := by
  refine ⟨h.len, h.lt, ?_⟩
  rw [List.nodup_iff_pairwise_ne, List.pairwise_iff_getElem]
  intro i j hi hj hij
  have := incr_lt h.inc (j - i - 1) i (by rw [← h.len]; omega)
  rw [show i + (j - i - 1) + 1 = j from by omega, nth_eq hi, nth_eq hj] at this
  omega
theorem mul_row {n : Nat} {rs : List Row} {fr : List Nat} (h : Helps n fr) (h1 : 1 ≤ n) (h2 : n ≤ 13) (hr : els rs = genM n) (hl : rs.length = n + 3) {to : Nat} (hto : to < n + 3) : mulM (els [nth rs to]) (invOf n fr) = [wts n fr to] := by
  obtain ⟨hs, _, _⟩ := invM_some (rows_shp h) (h.inv_eq h1 h2)
  have e1 : els [nth rs to] = [nth (genM n) to] := by unfold els; rw [List.map_cons, List.map_nil, els_row hr (by omega)]
  rw [e1, mulM]
  show [mrow _ _ _ 0 _] = _
  rw [mrow, hs.1, hs.2 0 (by omega), wts]
  congr 1
  refine List.map_congr_left fun k _ => gsum_congr fun j hj => ?_
  rw [← genM_el hto hj]; rfl
set_option maxRecDepth 20000 in
set_option maxHeartbeats 4000000 in
theorem weights_n (v : Value) (m n to : Nat) (fr : List Nat) (w : World) (hv : Sl w 1 v fr.length (ldv fr)) (hm : m = n + 3) (h1 : 1 ≤ n) (h2 : n ≤ 13) (hfr : Wfr n fr) (hto : to < m) :
    Calls Try.prog 12 #[iv m, v, iv to] w fun e w' => ∃ v' M, e = .returned v' ∧ H w M w' ∧ ∃ A c, v' = .tuple #[.slice A n c, iv 0] ∧ M = [vec A n c 5 1 (bvs (wts n fr to))] := by
  obtain ⟨A, c, rfl, hcc, hmm, hs⟩ := hv.open_
  have hfl := hfr.len
  have hsub : IntKind.i64.wrap ((m : Int) - 3) = (n : Int) := by rw [IntWalk.i64_in _ (by omega)]; omega
  have hpos : ∀ w', Calls Try.prog 28 #[iv m] w' fun e w2 => e = .returned (.bool true) ∧ Below w'.heap.size w' w2 := fun w' => by
    have := possible_i m w'
    rwa [decide_eq_true (by omega)] at this
  refine calls_wc (args := [iv m, .slice A fr.length c, iv to]) [6, 7] [] Try.func12 rfl Try.ntmps12 rfl rfl rfl rfl (H.refl w) ?_
  (refine WC.seq ?_; intro K hK)
  refine WC.region rfl ?_
  refine WL.want rfl (WL1.give rfl (g_assign rfl (.mk (v := .slice _ _ _) rfl rfl)) ?_)
  refine WL.want rfl (WL1.give rfl (g_assign rfl (.mk (v := .int _ _) rfl rfl)) ?_)
  refine WL.nil ?_
  (refine hK _ _ ?_; clear hK)
  (refine WC.seq ?_; intro K hK)
  (refine WC.seq ?_; intro K hK)
  refine WC.region rfl ?_
  refine WL.want rfl (WL1.give rfl (g_move rfl (.mk (v := .int _ _) rfl rfl)) ?_)
  refine WL.want rfl (WL1.callP rfl rfl rfl (.cons (.mk (v := .int _ _) rfl rfl) .nil) (fun w hw => hpos w) ?_)
  refine WL.want rfl (WL1.give rfl (g_notT rfl (.mk rfl rfl)) ?_)
  refine WL.want rfl (WL1.give rfl (g_move rfl (.mk (v := .bool _) rfl rfl)) ?_)
  refine WL.wantG rfl rfl rfl rfl (WL1.give rfl (g_move rfl (.mk (v := .slice _ _ _) rfl rfl)) ?_)
  refine WL.wantG rfl rfl rfl rfl (WL1.give rfl (g_len rfl (.mk rfl rfl) rfl) ?_)
  refine WL.wantG rfl rfl rfl rfl (WL1.give rfl (g_move rfl (.mk (v := .int _ _) rfl rfl)) ?_)
  refine WL.wantG rfl rfl rfl rfl (WL1.give rfl (g_sub rfl (.mk rfl rfl) (.mk rfl rfl) hsub) ?_)
  refine WL.wantG rfl rfl rfl rfl (WL1.give rfl (g_ne rfl (.mk rfl rfl) (.mk rfl rfl) (decide_eq_false (by omega))) ?_)
  refine WL.want rfl (WL1.give rfl (g_pickF rfl (.mk rfl rfl) (.mk (v := .bool _) rfl rfl)) ?_)
  refine WL.want rfl (WL1.give rfl (g_move rfl (.mk (v := .bool _) rfl rfl)) ?_)
  refine WL.wantG rfl rfl rfl rfl (WL1.give rfl (g_move rfl (.mk (v := .int _ _) rfl rfl)) ?_)
  refine WL.wantG rfl rfl rfl rfl (WL1.give rfl (g_lt rfl (.mk rfl rfl) (.mk rfl rfl) (decide_eq_false (by omega))) ?_)
  refine WL.want rfl (WL1.give rfl (g_pickF rfl (.mk rfl rfl) (.mk (v := .bool _) rfl rfl)) ?_)
  refine WL.want rfl (WL1.give rfl (g_move rfl (.mk (v := .bool _) rfl rfl)) ?_)
  refine WL.wantG rfl rfl rfl rfl (WL1.give rfl (g_move rfl (.mk (v := .int _ _) rfl rfl)) ?_)
  refine WL.wantG rfl rfl rfl rfl (WL1.give rfl (g_move rfl (.mk (v := .int _ _) rfl rfl)) ?_)
  refine WL.wantG rfl rfl rfl rfl (WL1.give rfl (g_ge rfl (.mk rfl rfl) (.mk rfl rfl) (decide_eq_false (by omega))) ?_)
  refine WL.want rfl (WL1.give rfl (g_pickF rfl (.mk rfl rfl) (.mk (v := .bool _) rfl rfl)) ?_)
  refine WL.nil ?_
  (refine hK _ _ ?_; clear hK)
  refine WC.cond_false (.mk rfl rfl) ?_
  refine WC.skip ?_
  (refine hK _ _ ?_; clear hK)
  (refine WC.seq ?_; intro K hK)
  (refine WC.seq ?_; intro K hK)
  refine WC.region rfl ?_
  refine WL.want rfl (WL1.give rfl (g_move rfl (.mk (v := .slice _ _ _) rfl rfl)) ?_)
  refine WL.want rfl (WL1.give rfl (g_len rfl (.mk rfl rfl) rfl) ?_)
  refine WL.want rfl (WL1.give rfl (g_move rfl (.mk (v := .int _ _) rfl rfl)) ?_)
  refine WL.nil ?_
  (refine hK _ _ ?_; clear hK)
  refine WC.block ?_
  refine WC.loop (36893487597663290304) (fun i : Nat => [(39, iv i)]) (fun _ => []) (fun i => i ≤ n) (fun i => n - i) 0 ⟨rfl, trivial⟩ (List.nil_sublist _) (by omega) ?_
  · intro i U hi
    by_cases hlt : i < n
    · have hgv := ldv_get (ld := fr) (k := i) (by omega)
      have hil := hfr.lt i hlt
      by_cases hi0 : i = 0
      · subst hi0
        (refine WC.seq ?_; intro K hK)
        refine WC.region rfl ?_
        refine WL.want rfl (WL1.give rfl (g_lt rfl (.mk rfl rfl) (.mk rfl rfl) (decide_eq_true (by omega))) ?_)
        refine WL.nil ?_
        (refine hK _ _ ?_; clear hK)
        (refine WC.seq ?_; intro K hK)
        refine WC.cond_true (.mk rfl rfl) ?_
        refine WC.skip ?_
        (refine hK _ _ ?_; clear hK)
        (refine WC.seq ?_; intro K hK)
        refine WC.block ?_
        (refine WC.seq ?_; intro K hK)
        refine WC.region rfl ?_
        refine WL.want rfl (WL1.give rfl (g_move rfl (.mk (v := .int _ _) rfl rfl)) ?_)
        refine WL.want rfl (WL1.give rfl (g_indexAddr (sz := 1) rfl (.mk rfl rfl) (.mk rfl rfl) rfl rfl (show _ = ((0 : Nat) : Int) from rfl) (by omega) (fun _ _ => sl_some hs (by omega))) ?_)
        refine WL.want rfl (WL1.give rfl (g_load rfl (.mk rfl rfl) rfl (rd_sl hs hgv)) ?_)
        refine WL.want rfl (WL1.give rfl (g_assign rfl (.mk (v := .int _ _) rfl rfl)) ?_)
        refine WL.want rfl (WL1.give rfl (g_assign rfl (.mk (v := .int _ _) rfl rfl)) ?_)
        refine WL.nil ?_
        (refine hK _ _ ?_; clear hK)
        (refine WC.seq ?_; intro K hK)
        refine WC.region rfl ?_
        refine WL.want rfl (WL1.give rfl (g_move rfl (.mk (v := .int _ _) rfl rfl)) ?_)
        refine WL.want rfl (WL1.give rfl (g_lt rfl (.mk rfl rfl) (.mk rfl rfl) (decide_eq_false (by omega))) ?_)
        refine WL.want rfl (WL1.give rfl (g_move rfl (.mk (v := .bool _) rfl rfl)) ?_)
        refine WL.wantG rfl rfl rfl rfl (WL1.give rfl (g_move rfl (.mk (v := .int _ _) rfl rfl)) ?_)
        refine WL.wantG rfl rfl rfl rfl (WL1.give rfl (g_move rfl (.mk (v := .int _ _) rfl rfl)) ?_)
        refine WL.wantG rfl rfl rfl rfl (WL1.give rfl (g_ge rfl (.mk rfl rfl) (.mk rfl rfl) (decide_eq_false (by omega))) ?_)
        refine WL.want rfl (WL1.give rfl (g_pickF rfl (.mk rfl rfl) (.mk (v := .bool _) rfl rfl)) ?_)
        refine WL.want rfl (WL1.give rfl (g_move rfl (.mk (v := .bool _) rfl rfl)) ?_)
        refine WL.wantG rfl rfl rfl rfl (WL1.give rfl (g_move rfl (.mk (v := .int _ _) rfl rfl)) ?_)
        refine WL.wantG rfl rfl rfl rfl (WL1.give rfl (g_gt rfl (.mk rfl rfl) (.mk rfl rfl) (decide_eq_false (by omega))) ?_)
        refine WL.wantG rfl rfl rfl rfl (WL1.give rfl (g_move rfl (.mk (v := .bool _) rfl rfl)) ?_)
        refine WL.skipG rfl rfl rfl rfl rfl rfl ?_
        refine WL.skipG rfl rfl rfl rfl rfl rfl ?_
        refine WL.skipG rfl rfl rfl rfl rfl rfl ?_
        refine WL.skipG rfl rfl rfl rfl rfl rfl ?_
        refine WL.skipG rfl rfl rfl rfl rfl rfl ?_
        refine WL.skipG rfl rfl rfl rfl rfl rfl ?_
        refine WL.skipG rfl rfl rfl rfl rfl rfl ?_
        refine WL.wantG rfl rfl rfl rfl (WL1.give rfl (g_pickF rfl (.mk rfl rfl) (.mk (v := .bool _) rfl rfl)) ?_)
        refine WL.want rfl (WL1.give rfl (g_pickF rfl (.mk rfl rfl) (.mk (v := .bool _) rfl rfl)) ?_)
        refine WL.nil ?_
        (refine hK _ _ ?_; clear hK)
        refine WC.cond_false (.mk rfl rfl) ?_
        refine WC.skip ?_
        (refine hK _ _ ?_; clear hK)
        refine WC.region rfl ?_
        refine WL.want rfl (WL1.give rfl (g_add rfl (.mk rfl rfl) (.mk rfl rfl) (IntWalk.i64_in _ (by omega))) ?_)
        refine WL.want rfl (WL1.give rfl (g_move rfl (.mk (v := .int _ _) rfl rfl)) ?_)
        refine WL.nil ?_
        exact ⟨0 + 1, (by repeat (first | with_reducible exact Out.refl _ _ | refine Out.set rfl ?_ | refine Out.put rfl ?_ | refine Out.sets rfl ?_ | refine Out.hav rfl ?_ | exact Out.refl _ _)), ⟨rfl, trivial⟩, .refl _, by omega, by omega⟩
      · have hsb : IntKind.i64.wrap ((i : Int) - 1) = ((i - 1 : Nat) : Int) := by rw [IntWalk.i64_in _ (by omega)]; omega
        have hgv2 := ldv_get (ld := fr) (k := i - 1) (by omega)
        have hic := hfr.inc (i - 1) (by omega)
        rw [show i - 1 + 1 = i from by omega] at hic
        (refine WC.seq ?_; intro K hK)
        refine WC.region rfl ?_
        refine WL.want rfl (WL1.give rfl (g_lt rfl (.mk rfl rfl) (.mk rfl rfl) (decide_eq_true (by omega))) ?_)
        refine WL.nil ?_
        (refine hK _ _ ?_; clear hK)
        (refine WC.seq ?_; intro K hK)
        refine WC.cond_true (.mk rfl rfl) ?_
        refine WC.skip ?_
        (refine hK _ _ ?_; clear hK)
        (refine WC.seq ?_; intro K hK)
        refine WC.block ?_
        (refine WC.seq ?_; intro K hK)
        refine WC.region rfl ?_
        refine WL.want rfl (WL1.give rfl (g_move rfl (.mk (v := .int _ _) rfl rfl)) ?_)
        refine WL.want rfl (WL1.give rfl (g_indexAddr (sz := 1) rfl (.mk rfl rfl) (.mk rfl rfl) rfl rfl rfl (by omega) (fun _ _ => sl_some hs (by omega))) ?_)
        refine WL.want rfl (WL1.give rfl (g_load rfl (.mk rfl rfl) rfl (rd_sl hs hgv)) ?_)
        refine WL.want rfl (WL1.give rfl (g_assign rfl (.mk (v := .int _ _) rfl rfl)) ?_)
        refine WL.want rfl (WL1.give rfl (g_assign rfl (.mk (v := .int _ _) rfl rfl)) ?_)
        refine WL.nil ?_
        (refine hK _ _ ?_; clear hK)
        (refine WC.seq ?_; intro K hK)
        refine WC.region rfl ?_
        refine WL.want rfl (WL1.give rfl (g_move rfl (.mk (v := .int _ _) rfl rfl)) ?_)
        refine WL.want rfl (WL1.give rfl (g_lt rfl (.mk rfl rfl) (.mk rfl rfl) (decide_eq_false (by omega))) ?_)
        refine WL.want rfl (WL1.give rfl (g_move rfl (.mk (v := .bool _) rfl rfl)) ?_)
        refine WL.wantG rfl rfl rfl rfl (WL1.give rfl (g_move rfl (.mk (v := .int _ _) rfl rfl)) ?_)
        refine WL.wantG rfl rfl rfl rfl (WL1.give rfl (g_move rfl (.mk (v := .int _ _) rfl rfl)) ?_)
        refine WL.wantG rfl rfl rfl rfl (WL1.give rfl (g_ge rfl (.mk rfl rfl) (.mk rfl rfl) (decide_eq_false (by omega))) ?_)
        refine WL.want rfl (WL1.give rfl (g_pickF rfl (.mk rfl rfl) (.mk (v := .bool _) rfl rfl)) ?_)
        refine WL.want rfl (WL1.give rfl (g_move rfl (.mk (v := .bool _) rfl rfl)) ?_)
        refine WL.wantG rfl rfl rfl rfl (WL1.give rfl (g_move rfl (.mk (v := .int _ _) rfl rfl)) ?_)
        refine WL.wantG rfl rfl rfl rfl (WL1.give rfl (g_gt rfl (.mk rfl rfl) (.mk rfl rfl) (decide_eq_true (by omega))) ?_)
        refine WL.wantG rfl rfl rfl rfl (WL1.give rfl (g_move rfl (.mk (v := .bool _) rfl rfl)) ?_)
        refine WL.wantG rfl rfl rfl rfl (WL1.give rfl (g_move rfl (.mk (v := .slice _ _ _) rfl rfl)) ?_)
        refine WL.wantG rfl rfl rfl rfl (WL1.give rfl (g_move rfl (.mk (v := .int _ _) rfl rfl)) ?_)
        refine WL.wantG rfl rfl rfl rfl (WL1.give rfl (g_sub rfl (.mk rfl rfl) (.mk rfl rfl) hsb) ?_)
        refine WL.wantG rfl rfl rfl rfl (WL1.give rfl (g_indexAddr (sz := 1) rfl (.mk rfl rfl) (.mk rfl rfl) rfl rfl rfl (by omega) (fun _ _ => sl_some hs (by omega))) ?_)
        refine WL.wantG rfl rfl rfl rfl (WL1.give rfl (g_load rfl (.mk rfl rfl) rfl (rd_sl hs hgv2)) ?_)
        refine WL.wantG rfl rfl rfl rfl (WL1.give rfl (g_move rfl (.mk (v := .int _ _) rfl rfl)) ?_)
        refine WL.wantG rfl rfl rfl rfl (WL1.give rfl (g_ge rfl (.mk rfl rfl) (.mk rfl rfl) (decide_eq_false (by omega))) ?_)
        refine WL.wantG rfl rfl rfl rfl (WL1.give rfl (g_pickT rfl (.mk rfl rfl) (.mk (v := .bool _) rfl rfl)) ?_)
        refine WL.want rfl (WL1.give rfl (g_pickF rfl (.mk rfl rfl) (.mk (v := .bool _) rfl rfl)) ?_)
        refine WL.nil ?_
        (refine hK _ _ ?_; clear hK)
        refine WC.cond_false (.mk rfl rfl) ?_
        refine WC.skip ?_
        (refine hK _ _ ?_; clear hK)
        refine WC.region rfl ?_
        refine WL.want rfl (WL1.give rfl (g_add rfl (.mk rfl rfl) (.mk rfl rfl) (IntWalk.i64_in _ (by omega))) ?_)
        refine WL.want rfl (WL1.give rfl (g_move rfl (.mk (v := .int _ _) rfl rfl)) ?_)
        refine WL.nil ?_
        exact ⟨i + 1, (by repeat (first | with_reducible exact Out.refl _ _ | refine Out.set rfl ?_ | refine Out.put rfl ?_ | refine Out.sets rfl ?_ | refine Out.hav rfl ?_ | exact Out.refl _ _)), ⟨rfl, trivial⟩, .refl _, by omega, by omega⟩
    · obtain rfl : i = n := by omega
      have hH := hfr.helps
      have hinvq := hH.inv_eq h1 h2
      (refine WC.seq ?_; intro K hK)
      refine WC.region rfl ?_
      refine WL.want rfl (WL1.give rfl (g_lt rfl (.mk rfl rfl) (.mk rfl rfl) (decide_eq_false (by omega))) ?_)
      refine WL.nil ?_
      (refine hK _ _ ?_; clear hK)
      (refine WC.seq ?_; intro K hK)
      refine WC.cond_false (.mk rfl rfl) ?_
      refine WC.exit ?_
      (clear hK; refine hK _ _ ?_; clear hK)
      (refine WC.seq ?_; intro K hK)
      refine WC.region rfl ?_
      refine WL.want rfl (WL1.give rfl (g_move rfl (.mk (v := .int _ _) rfl rfl)) ?_)
      (refine WL.want rfl (WL1.callN rfl rfl rfl (.cons (.mk (v := .int _ _) rfl rfl) .nil) (fun w hw => generator_n m i w hm h1 h2) ?_); rintro _ _ ⟨Ag, cg, rg, rfl, rfl, hrg, hlg⟩)
      refine WL.want rfl (WL1.give rfl (g_assign rfl (.mk (v := .slice _ _ _) rfl rfl)) ?_)
      refine WL.nil ?_
      (refine hK _ _ ?_; clear hK)
      (refine WC.seq ?_; intro K hK)
      refine WC.region rfl ?_
      refine WL.want rfl (WL1.give rfl (g_assign rfl (.mk (v := .slice _ _ _) rfl rfl)) ?_)
      refine WL.nil ?_
      (refine hK _ _ ?_; clear hK)
      (refine WC.seq ?_; intro K hK)
      (refine WC.seq ?_; intro K hK)
      refine WC.region rfl ?_
      refine WL.want rfl (WL1.give rfl (g_move rfl (.mk (v := .slice _ _ _) rfl rfl)) ?_)
      refine WL.want rfl (WL1.give rfl (g_len rfl (.mk rfl rfl) rfl) ?_)
      refine WL.want rfl (WL1.give rfl (g_move rfl (.mk (v := .int _ _) rfl rfl)) ?_)
      refine WL.nil ?_
      (refine hK _ _ ?_; clear hK)
      refine WC.block ?_
      refine WC.nilvec 24 1 ?_
      have hsel : ∀ k, k < fr.length → nth fr k < rg.length := fun k hk => by have := hfr.lt k (by omega); omega
      have hrow : ∀ k, k < rg.length → (nth rg k).l.length = i := fun k hk => by rw [els_row hrg hk]; exact genM_rowlen (by omega)
      refine WC.loopI3 (2417261343418899643770880) (fun (k : Nat) (O : Option Addr) (oc : Nat) => [(69, iv k), (11, .slice O k oc)]) (fun k O oc => [vec O k oc 24 1 (((fr.map fun k => nth rg k).map Row.v).take k), vec Ag rg.length cg 24 1 (rg.map Row.v), rowsA rg]) (fun k _ _ => k ≤ i) (fun k _ _ => i - k) 0 none 0 ⟨rfl, rfl, trivial⟩ (Imp.sub (by repeat (first | exact List.nil_sublist _ | exact List.Sublist.refl _ | apply List.Sublist.cons_cons | apply List.Sublist.cons))) (by omega) ?_
      intro k O oc U2 hk
      by_cases hlt2 : k < i
      · have hks := hsel k (by omega)
        have hgv := ldv_get (ld := fr) (k := k) (by omega)
        have htk : ((fr.map fun k => nth rg k).map Row.v).take (k + 1) = ((fr.map fun k => nth rg k).map Row.v).take k ++ [(nth rg (nth fr k)).v] := by
          rw [List.take_add_one, List.getElem?_map, List.getElem?_map, nth_get (by omega)]; rfl
        (refine WC.seq ?_; intro K hK)
        refine WC.region rfl ?_
        refine WL.want rfl (WL1.give rfl (g_lt rfl (.mk rfl rfl) (.mk rfl rfl) (decide_eq_true (by omega))) ?_)
        refine WL.nil ?_
        (refine hK _ _ ?_; clear hK)
        (refine WC.seq ?_; intro K hK)
        refine WC.cond_true (.mk rfl rfl) ?_
        refine WC.skip ?_
        (refine hK _ _ ?_; clear hK)
        (refine WC.seq ?_; intro K hK)
        refine WC.block ?_
        (refine WC.seq ?_; intro K hK)
        refine WC.region rfl ?_
        refine WL.want rfl (WL1.give rfl (g_indexAddr (sz := 1) rfl (.mk rfl rfl) (.mk rfl rfl) rfl rfl rfl (by omega) (fun _ _ => sl_some hs (by omega))) ?_)
        refine WL.want rfl (WL1.give rfl (g_load rfl (.mk rfl rfl) rfl (rd_sl hs hgv)) ?_)
        refine WL.want rfl (WL1.give rfl (g_assign rfl (.mk (v := .int _ _) rfl rfl)) ?_)
        refine WL.nil ?_
        (refine hK _ _ ?_; clear hK)
        refine WC.region rfl ?_
        refine WL.want rfl (WL1.give rfl (g_move rfl (.mk (v := .slice _ _ _) rfl rfl)) ?_)
        refine WL.want rfl (WL1.give rfl (g_move rfl (.mk (v := .slice _ _ _) rfl rfl)) ?_)
        refine WL.want rfl (WL1.give rfl (g_move rfl (.mk (v := .int _ _) rfl rfl)) ?_)
        refine WL.want rfl (WL1.give rfl (g_indexAddr (sz := 1) rfl (.mk rfl rfl) (.mk rfl rfl) rfl rfl rfl (by omega) (fun w hw => vec_some hw (.tail _ (.head _)) (by omega))) ?_)
        refine WL.want rfl (WL1.give rfl (g_load rfl (.mk rfl rfl) rfl (rd_vec (.tail _ (.head _)) (get1 (by omega)))) ?_)
        refine WL.want rfl (WL1.lit (cs := [_]) elR rfl rfl rfl (.cons (.mk (v := .slice _ _ _) rfl rfl) .nil) rfl (by first | (simp [Value.cells]; done) | fail) rfl rfl (fun b78 => ?_))
        refine WL.want rfl (WL1.append elR rfl rfl (.mk rfl rfl) (.mk rfl rfl) (.tail (.head)) (fun w hw => Sl.of_vec hw (.head _)) (all1 rfl) (by unfold maxLen; omega) (by omega) (fun A79 c79 => ?_))
        refine WL.want rfl (WL1.give rfl (g_assign rfl (.mk (v := .slice _ _ _) rfl rfl)) ?_)
        refine WL.nil ?_
        (refine hK _ _ ?_; clear hK)
        refine WC.region rfl ?_
        refine WL.want rfl (WL1.give rfl (g_add rfl (.mk rfl rfl) (.mk rfl rfl) (IntWalk.i64_in _ (by omega))) ?_)
        refine WL.want rfl (WL1.give rfl (g_move rfl (.mk (v := .int _ _) rfl rfl)) ?_)
        refine WL.nil ?_
        exact ⟨k + 1, _, _, (by repeat (first | with_reducible exact Out.refl _ _ | refine Out.set rfl ?_ | refine Out.put rfl ?_ | refine Out.sets rfl ?_ | refine Out.hav rfl ?_ | exact Out.refl _ _)), ⟨rfl, rfl, trivial⟩, by rw [htk]; exact Imp.cons (Imp.sub (by repeat (first | exact List.nil_sublist _ | exact List.Sublist.refl _ | apply List.Sublist.cons_cons | apply List.Sublist.cons))), by omega, by omega⟩
      · obtain rfl : k = i := by omega
        have hsq : (fr.map fun k => nth rg k).length = k := by rw [List.length_map, hfl]
        have htl : ((fr.map fun k => nth rg k).map Row.v).take k = (fr.map fun k => nth rg k).map Row.v := List.take_of_length_le (by rw [List.length_map, hsq]; exact Nat.le_refl _)
        rw [htl]
        have hrr : ∀ i, i < fr.length → nth (fr.map fun k => nth rg k) i = nth rg (nth fr i) := fun i hi => nth_map _ hi
        have hel : els (fr.map fun k => nth rg k) = rowsM (genM k) fr := by rw [els_some rg fr hsel, hrg]
        have hgs : Good (els (fr.map fun k => nth rg k)) := good_of (by omega) (by omega) (by rw [hrr 0 (by omega), hrow _ (hsel 0 (by omega))]; omega) (by rw [hrr 0 (by omega), hrow _ (hsel 0 (by omega))]; omega) fun q hq => by rw [hrr q (by omega), hrr 0 (by omega), hrow _ (hsel q (by omega)), hrow _ (hsel 0 (by omega))]
        have hsqr : (nth (fr.map fun k => nth rg k) 0).l.length = (fr.map fun k => nth rg k).length := by rw [hrr 0 (by omega), hrow _ (hsel 0 (by omega)), hsq]
        have hinv : ∀ w', H w [vec O k oc 24 1 ((fr.map fun k => nth rg k).map Row.v), vec Ag rg.length cg 24 1 (rg.map Row.v), rowsA rg] w' → Calls Try.prog 30 #[.slice O k oc] w' fun e w2 => ∃ v' M, e = .returned v' ∧ H w' M w2 ∧ ∃ A cc rs, v' = .tuple #[.slice A rs.length cc, iv 0] ∧ M = matM A cc rs ∧ els rs = invOf k fr ∧ rs.length = (fr.map fun k => nth rg k).length := fun w' hw' => by
          have hmt := MatAt.some (va := .slice Ag rg.length cg) (ra := rg) (sel := fr) (A := O) (c := oc) (MatAt.of_rowsA hw' (.tail _ (.head _)) (.tail _ (.tail _ (.head _)))) hsel hw' (by rw [hfl]; exact .head _)
          rw [hfl] at hmt
          exact inverse_n _ _ _ w' hmt hgs hsqr (by rw [hel]; exact hinvq)
        have hshp := (invM_some (rows_shp hH) hinvq).1
        have hrt := hrow to (by omega)
        have hgt : Good (els [nth rg to]) := by
          refine good_of (rs := [nth rg to]) (Nat.le_refl 1) (by show 1 ≤ 64; omega) (by show 1 ≤ (nth rg to).l.length; omega) (by show (nth rg to).l.length ≤ 64; omega) fun q hq => ?_
          have : q = 0 := by have : q < 1 := hq; omega
          subst this; rfl
        (refine WC.seq ?_; intro K hK)
        refine WC.region rfl ?_
        refine WL.want rfl (WL1.give rfl (g_lt rfl (.mk rfl rfl) (.mk rfl rfl) (decide_eq_false (by omega))) ?_)
        refine WL.nil ?_
        (refine hK _ _ ?_; clear hK)
        (refine WC.seq ?_; intro K hK)
        refine WC.cond_false (.mk rfl rfl) ?_
        refine WC.exit ?_
        (clear hK; refine hK _ _ ?_; clear hK)
        (refine WC.seq ?_; intro K hK)
        refine WC.region rfl ?_
        refine WL.want rfl (WL1.give rfl (g_move rfl (.mk (v := .slice _ _ _) rfl rfl)) ?_)
        (refine WL.want rfl (WL1.callN rfl rfl rfl (.cons (.mk (v := .slice _ _ _) rfl rfl) .nil) (fun w hw => hinv w hw) ?_); rintro _ _ ⟨Ai, ci, ri, rfl, rfl, hri, hli⟩)
        refine WL.want rfl (WL1.give rfl (g_move rfl (.mk (v := .tuple _) rfl rfl)) ?_)
        refine WL.want rfl (WL1.give rfl (g_extract rfl (.mk rfl rfl) rfl) ?_)
        refine WL.want rfl (WL1.give rfl (g_extract rfl (.mk rfl rfl) rfl) ?_)
        refine WL.want rfl (WL1.give rfl (g_assign rfl (.mk (v := .slice _ _ _) rfl rfl)) ?_)
        refine WL.want rfl (WL1.give rfl (g_assign rfl (.mk (v := .int _ _) rfl rfl)) ?_)
        refine WL.nil ?_
        (refine hK _ _ ?_; clear hK)
        (refine WC.seq ?_; intro K hK)
        (refine WC.seq ?_; intro K hK)
        refine WC.region rfl ?_
        refine WL.want rfl (WL1.give rfl (g_move rfl (.mk (v := .int _ _) rfl rfl)) ?_)
        refine WL.want rfl (WL1.give rfl (g_ne rfl (.mk rfl rfl) (.mk rfl rfl) (decide_eq_false (by omega))) ?_)
        refine WL.nil ?_
        (refine hK _ _ ?_; clear hK)
        refine WC.cond_false (.mk rfl rfl) ?_
        refine WC.skip ?_
        (refine hK _ _ ?_; clear hK)
        have hgi : Good (els ri) := good_of (by omega) (by omega) (by rw [els_row hri (by omega), hshp.2 0 (by omega)]; omega) (by rw [els_row hri (by omega), hshp.2 0 (by omega)]; omega) fun q hq => by rw [els_row hri hq, els_row hri (by omega), hshp.2 q (by omega), hshp.2 0 (by omega)]
        have hmr := mul_row hH h1 h2 hrg (by omega) (to := to) (by omega)
        rw [← hri] at hmr
        have hml : ∀ (b : Nat) (w' : World) (L : List Asrt), H w L w' → vec (some ⟨b, 0, none⟩) 1 1 24 1 [(nth rg to).v] ∈ L → rowsA rg ∈ L → vec Ai ri.length ci 24 1 (ri.map Row.v) ∈ L → rowsA ri ∈ L → Calls Try.prog 31 #[.slice (some ⟨b, 0, none⟩) 1 1, .slice Ai ri.length ci] w' fun e w2 => ∃ v' M, e = .returned v' ∧ H w' M w2 ∧ ∃ A cc r0, v' = .tuple #[.slice A 1 cc, iv 0] ∧ M = [vec A 1 cc 24 1 [r0.v], rowsA [r0]] ∧ r0.l = wts k fr to := fun b w' L hw' m1 m2 m3 m4 => by
          have hma : MatAt w' (.slice (some ⟨b, 0, none⟩) 1 1) [nth rg to] := ⟨Sl.of_vec hw' m1, fun r hr => by
            rw [List.mem_singleton] at hr; subst hr; exact Sl.of_rowA hw' m2 (by omega)⟩
          refine (mul_n _ _ [nth rg to] ri w' hma (MatAt.of_rowsA hw' m3 m4) hgt hgi (by show (nth rg to).l.length = _; omega)).mono ?_
          rintro e w2 ⟨v', M, rfl, hM, A, cc, ro, rfl, rfl, hro, hlo⟩
          obtain ⟨r0, rfl⟩ := List.length_eq_one_iff.1 hlo
          refine ⟨_, _, rfl, hM, A, cc, r0, rfl, rfl, ?_⟩
          rw [hmr] at hro
          simpa [els] using hro
        (refine WC.seq ?_; intro K hK)
        refine WC.region rfl ?_
        refine WL.want rfl (WL1.give rfl (g_move rfl (.mk (v := .slice _ _ _) rfl rfl)) ?_)
        refine WL.want rfl (WL1.give rfl (g_move rfl (.mk (v := .int _ _) rfl rfl)) ?_)
        refine WL.want rfl (WL1.give rfl (g_indexAddr (sz := 1) rfl (.mk rfl rfl) (.mk rfl rfl) rfl rfl rfl (by omega) (fun w hw => vec_some hw (.tail _ (.tail _ (.tail _ (.head _)))) (by omega))) ?_)
        refine WL.want rfl (WL1.give rfl (g_load rfl (.mk rfl rfl) rfl (rd_vec (.tail _ (.tail _ (.tail _ (.head _)))) (get1 (by omega)))) ?_)
        refine WL.want rfl (WL1.lit (cs := [_]) elR rfl rfl rfl (.cons (.mk (v := .slice _ _ _) rfl rfl) .nil) rfl (by first | (simp [Value.cells]; done) | fail) rfl rfl (fun b93 => ?_))
        refine WL.want rfl (WL1.give rfl (g_move rfl (.mk (v := .slice _ _ _) rfl rfl)) ?_)
        (refine WL.want rfl (WL1.callN rfl rfl rfl (.cons (.mk (v := .slice _ _ _) rfl rfl) (.cons (.mk (v := .slice _ _ _) rfl rfl) .nil)) (fun w hw => hml _ w _ hw (by repeat (first | exact .head _ | apply List.Mem.tail)) (by repeat (first | exact .head _ | apply List.Mem.tail)) (by repeat (first | exact .head _ | apply List.Mem.tail)) (by repeat (first | exact .head _ | apply List.Mem.tail))) ?_); rintro _ _ ⟨Ap, cp, r0, rfl, rfl, hr0⟩)
        refine WL.want rfl (WL1.give rfl (g_move rfl (.mk (v := .tuple _) rfl rfl)) ?_)
        refine WL.want rfl (WL1.give rfl (g_extract rfl (.mk rfl rfl) rfl) ?_)
        refine WL.want rfl (WL1.give rfl (g_extract rfl (.mk rfl rfl) rfl) ?_)
        refine WL.want rfl (WL1.give rfl (g_assign rfl (.mk (v := .slice _ _ _) rfl rfl)) ?_)
        refine WL.want rfl (WL1.give rfl (g_assign rfl (.mk (v := .int _ _) rfl rfl)) ?_)
        refine WL.nil ?_
        (refine hK _ _ ?_; clear hK)
        (refine WC.seq ?_; intro K hK)
        refine WC.region rfl ?_
        refine WL.want rfl (WL1.give rfl (g_move rfl (.mk (v := .slice _ _ _) rfl rfl)) ?_)
        refine WL.want rfl (WL1.give rfl (g_indexAddr (sz := 1) rfl (.mk rfl rfl) (.mk rfl rfl) rfl rfl (show _ = ((0 : Nat) : Int) from rfl) (by omega) (fun w hw => vec_some hw (.head _) (by omega))) ?_)
        refine WL.want rfl (WL1.give rfl (g_load rfl (.mk rfl rfl) rfl (rd_vec (.head _) (show ([r0.v] : List Value)[0 * 1]? = some r0.v from rfl))) ?_)
        refine WL.want rfl (WL1.give rfl (g_assign rfl (.mk (v := .slice _ _ _) rfl rfl)) ?_)
        refine WL.want rfl (WL1.give rfl (g_assign rfl (.mk (v := .int _ _) rfl rfl)) ?_)
        refine WL.nil ?_
        (refine hK _ _ ?_; clear hK)
        refine WC.ret ?_
        have hr0l : r0.l.length = k := by rw [hr0, wts_len]
        have hown : r0.own = vec r0.A k r0.c 5 1 (bvs (wts k fr to)) := by rw [Row.own, hr0l, hr0]
        refine fun w' hw' => ⟨_, [r0.own], rfl, ?_, r0.A, r0.c, ?_, by rw [hown]⟩
        · refine Imp.h ?_ hw'
          exact Imp.trans (M := [rowsA [r0]]) (Imp.pick (by repeat (first | exact .head | apply Take.tail)) (Imp.nil _)) (Imp.unbun [r0.own] [])
        · show Value.tuple #[r0.v, iv 0] = _
          rw [Row.v, hr0l]
end Go.Proofs.Ytlcddlipcdimeaa
namespace Go.Proofs.Ytlcddlipcdimeaa
open Go.RowKit
/-- The first n good pieces among the first i. -/
def gdT (bs : List Bool) (n : Nat) : Nat → List Nat
  | 0 => []
  | i + 1 => if nth bs i = false ∧ (gdT bs n i).length < n then gdT bs n i ++ [i] else gdT bs n i
def cnt (bs : List Bool) : Nat → Nat
  | 0 => 0
  | i + 1 => cnt bs i + if nth bs i then 1 else 0
variable {bs : List Bool} {n : Nat}
theorem cnt_le : ∀ i, cnt bs i ≤ i
  | 0 => Nat.le_refl _
  | i + 1 => by have := cnt_le i; show cnt bs i + (if nth bs i then 1 else 0) ≤ i + 1; split <;> omega
theorem gdT_take {i : Nat} (h : nth bs i = false) (hl : (gdT bs n i).length < n) : gdT bs n (i + 1) = gdT bs n i ++ [i] := if_pos ⟨h, hl⟩
theorem gdT_bad {i : Nat} (h : nth bs i = true) : gdT bs n (i + 1) = gdT bs n i := if_neg fun ⟨h1, _⟩ => by rw [h] at h1; cases h1
theorem gdT_over {i : Nat} (h : ¬ (gdT bs n i).length < n) : gdT bs n (i + 1) = gdT bs n i := if_neg fun ⟨_, h2⟩ => h h2
theorem gdT_len : ∀ i, (gdT bs n i).length = min n (i - cnt bs i)
  | 0 => by show 0 = min n (0 - cnt bs 0); omega
  | i + 1 => by
    have ih := gdT_len i
    have hc := cnt_le (bs := bs) i
    have hs : cnt bs (i + 1) = cnt bs i + if nth bs i then 1 else 0 := rfl
    cases hb : nth bs i with
    | true => rw [gdT_bad hb, hs, hb, if_pos rfl]; omega
    | false =>
      rw [hs, hb]
      by_cases hl : (gdT bs n i).length < n
      · rw [gdT_take hb hl, List.length_append]; simp; omega
      · rw [gdT_over hl]; simp; omega
theorem gdT_lt : ∀ i, ∀ a ∈ gdT bs n i, a < i ∧ nth bs a = false
  | 0, a, h => by cases h
  | i + 1, a, h => by
    by_cases hc : nth bs i = false ∧ (gdT bs n i).length < n
    · rw [gdT_take hc.1 hc.2] at h
      rcases List.mem_append.1 h with h | h
      · have := gdT_lt i a h; exact ⟨by omega, this.2⟩
      · rw [List.mem_singleton] at h; subst h; exact ⟨by omega, hc.1⟩
    · rw [gdT, if_neg hc] at h
      have := gdT_lt i a h; exact ⟨by omega, this.2⟩
theorem gdT_inc : ∀ i, ∀ k, k + 1 < (gdT bs n i).length → nth (gdT bs n i) k < nth (gdT bs n i) (k + 1)
  | 0, k, h => by cases h
  | i + 1, k, h => by
    by_cases hc : nth bs i = false ∧ (gdT bs n i).length < n
    · rw [gdT_take hc.1 hc.2] at h ⊢
      rw [List.length_append] at h
      simp at h
      rw [nth_app, nth_app, if_pos (by omega)]
      by_cases e : k + 1 < (gdT bs n i).length
      · rw [if_pos e]; exact gdT_inc i k e
      · rw [if_neg e, show k + 1 - (gdT bs n i).length = 0 from by omega, nth_zero]
        exact (gdT_lt i _ (nth_mem (by omega))).1
    · rw [gdT, if_neg hc] at h ⊢
      exact gdT_inc i k h
theorem gdT_full {i : Nat} (h : (gdT bs n i).length = n) : ∀ d, gdT bs n (i + d) = gdT bs n i
  | 0 => rfl
  | d + 1 => by rw [← Nat.add_assoc, gdT_over (by rw [gdT_full h d, h]; omega), gdT_full h d]
/-- The helpers that are chosen. -/
theorem gdT_wfr (hc : cnt bs (n + 3) ≤ 3) : Wfr n (gdT bs n (n + 3)) := by
  have hl : (gdT bs n (n + 3)).length = n := by rw [gdT_len]; omega
  exact ⟨hl, fun i hi => (gdT_lt _ _ (nth_mem (by omega))).1, fun k hk => gdT_inc _ k (by omega)⟩
theorem gdT_good {k m : Nat} (h : k < (gdT bs n m).length) : nth bs (nth (gdT bs n m) k) = false := (gdT_lt _ _ (nth_mem h)).2
/-- What is decoded, of the first j pieces. -/
def decP (ps : List Blk) (bs : List Bool) (n j : Nat) : List Blk := (List.range (n + 3)).map fun i => if i < j ∧ nth bs i = true then comb (wts n (gdT bs n (n + 3)) i) ((gdT bs n (n + 3)).map (nth ps)) n else nth ps i
def decL (ps : List Blk) (bs : List Bool) (n : Nat) : List Blk := decP ps bs n (n + 3)
theorem decP_len (ps : List Blk) (bs : List Bool) (n j : Nat) : (decP ps bs n j).length = n + 3 := by simp [decP]
theorem decP_nth (ps : List Blk) (bs : List Bool) (n j : Nat) {i : Nat} (h : i < n + 3) : nth (decP ps bs n j) i = if i < j ∧ nth bs i = true then comb (wts n (gdT bs n (n + 3)) i) ((gdT bs n (n + 3)).map (nth ps)) n else nth ps i := nth_range _ h
theorem decL_nth (ps : List Blk) (bs : List Bool) (n : Nat) {i : Nat} (h : i < n + 3) : nth (decL ps bs n) i = if nth bs i = true then comb (wts n (gdT bs n (n + 3)) i) ((gdT bs n (n + 3)).map (nth ps)) n else nth ps i := by
  rw [decL, decP_nth _ _ _ _ h]
  by_cases e : nth bs i = true
  · rw [if_pos ⟨h, e⟩, if_pos e]
  · rw [if_neg fun q => e q.2, if_neg e]
theorem decP_zero {ps : List Blk} (h : ps.length = n + 3) : decP ps bs n 0 = ps := list_ext_nth (by rw [decP_len, h]) fun k hk => by
  rw [decP_nth _ _ _ _ (by rw [decP_len] at hk; exact hk), if_neg (by omega)]
theorem decP_set {ps : List Blk} {j : Nat} (hj : j < n + 3) (hb : nth bs j = true) : (decP ps bs n j).set j (comb (wts n (gdT bs n (n + 3)) j) ((gdT bs n (n + 3)).map (nth ps)) n) = decP ps bs n (j + 1) :=
  list_ext_nth (by rw [List.length_set, decP_len, decP_len]) fun q hq => by
    have hq3 : q < n + 3 := by rw [List.length_set, decP_len] at hq; exact hq
    rw [nth_set_eq (by rw [decP_len]; exact hj), decP_nth _ _ _ _ hq3, decP_nth _ _ _ _ hq3]
    by_cases e : q = j
    · subst e; rw [if_pos rfl, if_pos ⟨by omega, hb⟩]
    · rw [if_neg e]
      by_cases e2 : q < j ∧ nth bs q = true
      · rw [if_pos e2, if_pos ⟨by omega, e2.2⟩]
      · rw [if_neg e2, if_neg fun h => e2 ⟨by omega, h.2⟩]
theorem decP_skip {ps : List Blk} {j : Nat} (hb : ¬ nth bs j = true) : decP ps bs n j = decP ps bs n (j + 1) := List.map_congr_left fun q _ => by
  by_cases e : q < j ∧ nth bs q = true
  · rw [if_pos e, if_pos ⟨by omega, e.2⟩]
  · rw [if_neg e, if_neg fun h => e ⟨by
      have h1 := h.1
      have : q ≠ j := fun h' => hb (h' ▸ h.2)
      omega, h.2⟩]
/-- A consistent group of which no more than three pieces are bad comes back. -/
theorem decL_group {ds ps : List Blk} (hl : ds.length = n) (h1 : 1 ≤ n) (h2 : n ≤ 13) (hc : cnt bs (n + 3) ≤ 3) (hp : ∀ i, i < n + 3 → nth bs i = false → nth ps i = nth (ds ++ enc ds) i) : decL ps bs n = ds ++ enc ds :=
  list_ext_nth (by rw [decL, decP_len, List.length_append, enc_len, hl]) fun i hi => by
    have hi3 : i < n + 3 := by rw [decL, decP_len] at hi; exact hi
    have hw := gdT_wfr hc
    rw [decL_nth _ _ _ hi3]
    by_cases e : nth bs i = true
    · rw [if_pos e]
      exact hw.helps.comb h1 h2 hl hi3 fun k hk => by
        rw [nth_map _ (by rw [hw.len]; exact hk)]
        exact hp _ (hw.lt k hk) (gdT_good (by rw [hw.len]; exact hk))
    · rw [if_neg e, hp i hi3 (by simpa using e)]
end Go.Proofs.Ytlcddlipcdimeaa
namespace Go.Proofs.Ytlcddlipcdimeaa
open Go.RowKit
section
variable {P : Program} {n : Fr} {w0 : World} {E : Env} {L : List Asrt} {Q : Exit → Post}
theorem WC.loopF {c : Code} {γ : Type} (VI : γ → List (Nat × Value)) (LI : γ → List Asrt) (pre : γ → Prop) (μ : γ → Nat) (g : γ) (hE : Agree E (VI g)) (hL : Imp L (LI g)) (hp : pre g)
    (round : ∀ g U, pre g → WC P n w0 c (seqQ (fun E' L' => ∃ g', Agree E' (VI g') ∧ Imp L' (LI g') ∧ pre g' ∧ μ g' < μ g) Q) (sets U (VI g)) (LI g)) : WC P n w0 (.loop c) Q E L := by
  intro w hw
  refine wpIn_loop_ghost (Q := liftQ n w0 Q) (fun k a w => ∃ g U, μ g = k ∧ a = actOf n (sets U (VI g)) ∧ H w0 (LI g) w ∧ pre g) (μ g) ⟨g, E, rfl, ?_, hL.h hw, hp⟩ ?_
  · rw [sets_same hE]
  · rintro k a w' ⟨g, U, rfl, rfl, hH, hp'⟩
    refine wpIn_mono (round g U hp' w' hH) ?_
    intro e a' w'' hq
    cases e with
    | normal =>
      obtain ⟨E', L', rfl, hH', g', ha, hs, hp'', hm⟩ := hq
      exact ⟨μ g', hm, g', E', rfl, by rw [sets_same ha], hs.h hH', hp''⟩
    | _ => exact hq
theorem WC.seqF {x y : Code} {γ : Type} (VI : γ → List (Nat × Value)) (LI : γ → List Asrt) (pre : γ → Prop) (h1 : WC P n w0 x (seqQ (fun E' L' => ∃ g, Agree E' (VI g) ∧ Imp L' (LI g) ∧ pre g) Q) E L)
    (h2 : ∀ g U, pre g → WC P n w0 y Q (sets U (VI g)) (LI g)) : WC P n w0 (.seq x y) Q E L := by
  refine WC.seq fun K hK w hw => wpMono ?_ (h1 w hw)
  intro e a w' hq
  cases e with
  | normal =>
    obtain ⟨E', L', rfl, hH, g, ha, hs, hp⟩ := hq
    refine ⟨E', LI g, rfl, hs.h hH, hK _ _ ?_⟩
    have := h2 g E' hp
    rwa [sets_same ha] at this
  | _ => exact hq
/-- The frame is forgotten but for the slots that are named. -/
theorem WC.forget {c : Code} (V : List (Nat × Value)) (hE : Agree E V) (h : ∀ U, WC P n w0 c Q (sets U V) L) : WC P n w0 c Q E L := by
  have := h E
  rwa [sets_same hE] at this
theorem WC.impF {c : Code} {M : List Asrt} (V : List (Nat × Value)) (hE : Agree E V) (hi : Imp L M) (h : ∀ U, WC P n w0 c Q (sets U V) M) : WC P n w0 c Q E L := by
  have := h E
  rw [sets_same hE] at this
  exact WC.imp hi this
theorem WC.loopF2 {c : Code} {α β : Type} (VI : α → β → List (Nat × Value)) (LI : α → β → List Asrt) (pre : α → β → Prop) (μ : α → β → Nat) (g0 : α) (g1 : β) (hE : Agree E (VI g0 g1)) (hL : Imp L (LI g0 g1)) (hp : pre g0 g1)
    (round : ∀ h0 h1 U, pre h0 h1 → WC P n w0 c (seqQ (fun E' L' => ∃ g0 g1, Agree E' (VI g0 g1) ∧ Imp L' (LI g0 g1) ∧ pre g0 g1 ∧ μ g0 g1 < μ h0 h1) Q) (sets U (VI h0 h1)) (LI h0 h1)) : WC P n w0 (.loop c) Q E L :=
  WC.loopF (γ := α × β) (fun g => VI g.1 g.2) (fun g => LI g.1 g.2) (fun g => pre g.1 g.2) (fun g => μ g.1 g.2) (g0, g1) hE hL hp fun g U hpre w hw => wpMono (by
    intro e a w' hq
    cases e with
    | normal => obtain ⟨E', L', rfl, hH, g0, g1, h⟩ := hq; exact ⟨E', L', rfl, hH, (g0, g1), h⟩
    | _ => exact hq) (round g.1 g.2 U hpre w hw)
theorem WC.loopF3 {c : Code} {α β γ : Type} (VI : α → β → γ → List (Nat × Value)) (LI : α → β → γ → List Asrt) (pre : α → β → γ → Prop) (μ : α → β → γ → Nat) (g0 : α) (g1 : β) (g2 : γ) (hE : Agree E (VI g0 g1 g2)) (hL : Imp L (LI g0 g1 g2)) (hp : pre g0 g1 g2)
    (round : ∀ h0 h1 h2 U, pre h0 h1 h2 → WC P n w0 c (seqQ (fun E' L' => ∃ g0 g1 g2, Agree E' (VI g0 g1 g2) ∧ Imp L' (LI g0 g1 g2) ∧ pre g0 g1 g2 ∧ μ g0 g1 g2 < μ h0 h1 h2) Q) (sets U (VI h0 h1 h2)) (LI h0 h1 h2)) : WC P n w0 (.loop c) Q E L :=
  WC.loopF (γ := α × β × γ) (fun g => VI g.1 g.2.1 g.2.2) (fun g => LI g.1 g.2.1 g.2.2) (fun g => pre g.1 g.2.1 g.2.2) (fun g => μ g.1 g.2.1 g.2.2) (g0, g1, g2) hE hL hp fun g U hpre w hw => wpMono (by
    intro e a w' hq
    cases e with
    | normal => obtain ⟨E', L', rfl, hH, g0, g1, g2, h⟩ := hq; exact ⟨E', L', rfl, hH, (g0, g1, g2), h⟩
    | _ => exact hq) (round g.1 g.2.1 g.2.2 U hpre w hw)
theorem WC.loopF4 {c : Code} {α β γ δ : Type} (VI : α → β → γ → δ → List (Nat × Value)) (LI : α → β → γ → δ → List Asrt) (pre : α → β → γ → δ → Prop) (μ : α → β → γ → δ → Nat) (g0 : α) (g1 : β) (g2 : γ) (g3 : δ) (hE : Agree E (VI g0 g1 g2 g3)) (hL : Imp L (LI g0 g1 g2 g3)) (hp : pre g0 g1 g2 g3)
    (round : ∀ h0 h1 h2 h3 U, pre h0 h1 h2 h3 → WC P n w0 c (seqQ (fun E' L' => ∃ g0 g1 g2 g3, Agree E' (VI g0 g1 g2 g3) ∧ Imp L' (LI g0 g1 g2 g3) ∧ pre g0 g1 g2 g3 ∧ μ g0 g1 g2 g3 < μ h0 h1 h2 h3) Q) (sets U (VI h0 h1 h2 h3)) (LI h0 h1 h2 h3)) : WC P n w0 (.loop c) Q E L :=
  WC.loopF (γ := α × β × γ × δ) (fun g => VI g.1 g.2.1 g.2.2.1 g.2.2.2) (fun g => LI g.1 g.2.1 g.2.2.1 g.2.2.2) (fun g => pre g.1 g.2.1 g.2.2.1 g.2.2.2) (fun g => μ g.1 g.2.1 g.2.2.1 g.2.2.2) (g0, g1, g2, g3) hE hL hp fun g U hpre w hw => wpMono (by
    intro e a w' hq
    cases e with
    | normal => obtain ⟨E', L', rfl, hH, g0, g1, g2, g3, h⟩ := hq; exact ⟨E', L', rfl, hH, (g0, g1, g2, g3), h⟩
    | _ => exact hq) (round g.1 g.2.1 g.2.2.1 g.2.2.2 U hpre w hw)
theorem WC.loopF5 {c : Code} {α β γ δ ε : Type} (VI : α → β → γ → δ → ε → List (Nat × Value)) (LI : α → β → γ → δ → ε → List Asrt) (pre : α → β → γ → δ → ε → Prop) (μ : α → β → γ → δ → ε → Nat) (g0 : α) (g1 : β) (g2 : γ) (g3 : δ) (g4 : ε) (hE : Agree E (VI g0 g1 g2 g3 g4)) (hL : Imp L (LI g0 g1 g2 g3 g4)) (hp : pre g0 g1 g2 g3 g4)
    (round : ∀ h0 h1 h2 h3 h4 U, pre h0 h1 h2 h3 h4 → WC P n w0 c (seqQ (fun E' L' => ∃ g0 g1 g2 g3 g4, Agree E' (VI g0 g1 g2 g3 g4) ∧ Imp L' (LI g0 g1 g2 g3 g4) ∧ pre g0 g1 g2 g3 g4 ∧ μ g0 g1 g2 g3 g4 < μ h0 h1 h2 h3 h4) Q) (sets U (VI h0 h1 h2 h3 h4)) (LI h0 h1 h2 h3 h4)) : WC P n w0 (.loop c) Q E L :=
  WC.loopF (γ := α × β × γ × δ × ε) (fun g => VI g.1 g.2.1 g.2.2.1 g.2.2.2.1 g.2.2.2.2) (fun g => LI g.1 g.2.1 g.2.2.1 g.2.2.2.1 g.2.2.2.2) (fun g => pre g.1 g.2.1 g.2.2.1 g.2.2.2.1 g.2.2.2.2) (fun g => μ g.1 g.2.1 g.2.2.1 g.2.2.2.1 g.2.2.2.2) (g0, g1, g2, g3, g4) hE hL hp fun g U hpre w hw => wpMono (by
    intro e a w' hq
    cases e with
    | normal => obtain ⟨E', L', rfl, hH, g0, g1, g2, g3, g4, h⟩ := hq; exact ⟨E', L', rfl, hH, (g0, g1, g2, g3, g4), h⟩
    | _ => exact hq) (round g.1 g.2.1 g.2.2.1 g.2.2.2.1 g.2.2.2.2 U hpre w hw)
theorem WC.loopF6 {c : Code} {α β γ δ ε ζ : Type} (VI : α → β → γ → δ → ε → ζ → List (Nat × Value)) (LI : α → β → γ → δ → ε → ζ → List Asrt) (pre : α → β → γ → δ → ε → ζ → Prop) (μ : α → β → γ → δ → ε → ζ → Nat) (g0 : α) (g1 : β) (g2 : γ) (g3 : δ) (g4 : ε) (g5 : ζ) (hE : Agree E (VI g0 g1 g2 g3 g4 g5)) (hL : Imp L (LI g0 g1 g2 g3 g4 g5)) (hp : pre g0 g1 g2 g3 g4 g5)
    (round : ∀ h0 h1 h2 h3 h4 h5 U, pre h0 h1 h2 h3 h4 h5 → WC P n w0 c (seqQ (fun E' L' => ∃ g0 g1 g2 g3 g4 g5, Agree E' (VI g0 g1 g2 g3 g4 g5) ∧ Imp L' (LI g0 g1 g2 g3 g4 g5) ∧ pre g0 g1 g2 g3 g4 g5 ∧ μ g0 g1 g2 g3 g4 g5 < μ h0 h1 h2 h3 h4 h5) Q) (sets U (VI h0 h1 h2 h3 h4 h5)) (LI h0 h1 h2 h3 h4 h5)) : WC P n w0 (.loop c) Q E L :=
  WC.loopF (γ := α × β × γ × δ × ε × ζ) (fun g => VI g.1 g.2.1 g.2.2.1 g.2.2.2.1 g.2.2.2.2.1 g.2.2.2.2.2) (fun g => LI g.1 g.2.1 g.2.2.1 g.2.2.2.1 g.2.2.2.2.1 g.2.2.2.2.2) (fun g => pre g.1 g.2.1 g.2.2.1 g.2.2.2.1 g.2.2.2.2.1 g.2.2.2.2.2) (fun g => μ g.1 g.2.1 g.2.2.1 g.2.2.2.1 g.2.2.2.2.1 g.2.2.2.2.2) (g0, g1, g2, g3, g4, g5) hE hL hp fun g U hpre w hw => wpMono (by
    intro e a w' hq
    cases e with
    | normal => obtain ⟨E', L', rfl, hH, g0, g1, g2, g3, g4, g5, h⟩ := hq; exact ⟨E', L', rfl, hH, (g0, g1, g2, g3, g4, g5), h⟩
    | _ => exact hq) (round g.1 g.2.1 g.2.2.1 g.2.2.2.1 g.2.2.2.2.1 g.2.2.2.2.2 U hpre w hw)
theorem WC.loopF7 {c : Code} {α β γ δ ε ζ η : Type} (VI : α → β → γ → δ → ε → ζ → η → List (Nat × Value)) (LI : α → β → γ → δ → ε → ζ → η → List Asrt) (pre : α → β → γ → δ → ε → ζ → η → Prop) (μ : α → β → γ → δ → ε → ζ → η → Nat) (g0 : α) (g1 : β) (g2 : γ) (g3 : δ) (g4 : ε) (g5 : ζ) (g6 : η) (hE : Agree E (VI g0 g1 g2 g3 g4 g5 g6)) (hL : Imp L (LI g0 g1 g2 g3 g4 g5 g6)) (hp : pre g0 g1 g2 g3 g4 g5 g6)
    (round : ∀ h0 h1 h2 h3 h4 h5 h6 U, pre h0 h1 h2 h3 h4 h5 h6 → WC P n w0 c (seqQ (fun E' L' => ∃ g0 g1 g2 g3 g4 g5 g6, Agree E' (VI g0 g1 g2 g3 g4 g5 g6) ∧ Imp L' (LI g0 g1 g2 g3 g4 g5 g6) ∧ pre g0 g1 g2 g3 g4 g5 g6 ∧ μ g0 g1 g2 g3 g4 g5 g6 < μ h0 h1 h2 h3 h4 h5 h6) Q) (sets U (VI h0 h1 h2 h3 h4 h5 h6)) (LI h0 h1 h2 h3 h4 h5 h6)) : WC P n w0 (.loop c) Q E L :=
  WC.loopF (γ := α × β × γ × δ × ε × ζ × η) (fun g => VI g.1 g.2.1 g.2.2.1 g.2.2.2.1 g.2.2.2.2.1 g.2.2.2.2.2.1 g.2.2.2.2.2.2) (fun g => LI g.1 g.2.1 g.2.2.1 g.2.2.2.1 g.2.2.2.2.1 g.2.2.2.2.2.1 g.2.2.2.2.2.2) (fun g => pre g.1 g.2.1 g.2.2.1 g.2.2.2.1 g.2.2.2.2.1 g.2.2.2.2.2.1 g.2.2.2.2.2.2) (fun g => μ g.1 g.2.1 g.2.2.1 g.2.2.2.1 g.2.2.2.2.1 g.2.2.2.2.2.1 g.2.2.2.2.2.2) (g0, g1, g2, g3, g4, g5, g6) hE hL hp fun g U hpre w hw => wpMono (by
    intro e a w' hq
    cases e with
    | normal => obtain ⟨E', L', rfl, hH, g0, g1, g2, g3, g4, g5, g6, h⟩ := hq; exact ⟨E', L', rfl, hH, (g0, g1, g2, g3, g4, g5, g6), h⟩
    | _ => exact hq) (round g.1 g.2.1 g.2.2.1 g.2.2.2.1 g.2.2.2.2.1 g.2.2.2.2.2.1 g.2.2.2.2.2.2 U hpre w hw)
end
end Go.Proofs.Ytlcddlipcdimeaa
namespace Go.Proofs.Ytlcddlipcdimeaa
open Go.RowKit
attribute [local irreducible] Calls
/-- A list of marks. -/
def bls (l : List Bool) : List Value := l.map Value.bool
theorem bls_get {l : List Bool} {k : Nat} (h : k < l.length) : (bls l)[k * 1]? = some (.bool (nth l k)) := by unfold bls; exact get1 h
theorem bls_len (l : List Bool) : (bls l).length = l.length := by simp [bls]
theorem elI : Elem Try.prog 22 3 (.int .i64 0) 1 8 := ⟨rfl, rfl, rfl, by omega⟩
theorem ldv_snoc (l : List Nat) (i : Nat) : ldv l ++ [iv i] = ldv (l ++ [i]) := by unfold ldv; rw [List.map_append]; rfl
theorem kvs_snoc (l : List Blk) (b : Blk) : kvs l ++ b.cells = kvs (l ++ [b]) := by simp [kvs]
theorem kvs_sing (b : Blk) : b.cells = kvs [b] := by simp [kvs]
set_option maxRecDepth 20000 in
set_option maxHeartbeats 4000000 in
theorem decode_c (vp vb : Value) (ps : List Blk) (bs : List Bool) (n : Nat) (w : World) (hp : Sl w 8 vp ps.length (kvs ps)) (hb : Sl w 1 vb bs.length (bls bs)) (h1 : 1 ≤ n) (h2 : n ≤ 13) (hpl : ps.length = n + 3) (hbl : bs.length = n + 3) :
    Calls Try.prog 20 #[vp, vb] w fun e w' => ∃ v' M, e = .returned v' ∧ H w M w' ∧ ((3 < cnt bs (n + 3) ∧ v' = .tuple #[.slice none 0 0, iv 12]) ∨ (cnt bs (n + 3) ≤ 3 ∧ ∃ A c, v' = .tuple #[.slice A (n + 3) c, iv 0] ∧ M = [vec A (n + 3) c 33 8 (kvs (decL ps bs n))])) := by
  obtain ⟨A, c, rfl, hcc, hm, hs⟩ := hp.open_
  obtain ⟨B, d, rfl, hcd, hmd, hsb⟩ := hb.open_
  obtain ⟨m, hmn⟩ : ∃ m, m = n + 3 := ⟨_, rfl⟩
  rw [← hmn] at hpl hbl ⊢
  have hsub : IntKind.i64.wrap ((m : Int) - 3) = (n : Int) := by rw [IntWalk.i64_in _ (by omega)]; omega
  have hpos : ∀ w', Calls Try.prog 28 #[iv m] w' fun e w2 => e = .returned (.bool true) ∧ Below w'.heap.size w' w2 := fun w' => by
    have := possible_i m w'
    rwa [decide_eq_true (by omega)] at this
  rw [hpl] at hs hcc
  rw [hbl] at hsb hcd
  rw [hpl, hbl]
  refine calls_wc (args := [.slice A m c, .slice B m d]) [4, 5] [] Try.func20 rfl Try.ntmps20 rfl rfl rfl rfl (H.refl w) ?_
  (refine WC.seq ?_; intro K hK)
  refine WC.region rfl ?_
  refine WL.want rfl (WL1.give rfl (g_assign rfl (.mk (v := .slice _ _ _) rfl rfl)) ?_)
  refine WL.want rfl (WL1.give rfl (g_assign rfl (.mk (v := .int _ _) rfl rfl)) ?_)
  refine WL.nil ?_
  (refine hK _ _ ?_; clear hK)
  (refine WC.seq ?_; intro K hK)
  refine WC.region rfl ?_
  refine WL.want rfl (WL1.give rfl (g_move rfl (.mk (v := .slice _ _ _) rfl rfl)) ?_)
  refine WL.want rfl (WL1.give rfl (g_len rfl (.mk rfl rfl) rfl) ?_)
  refine WL.want rfl (WL1.give rfl (g_assign rfl (.mk (v := .int _ _) rfl rfl)) ?_)
  refine WL.nil ?_
  (refine hK _ _ ?_; clear hK)
  (refine WC.seq ?_; intro K hK)
  (refine WC.seq ?_; intro K hK)
  refine WC.region rfl ?_
  refine WL.want rfl (WL1.give rfl (g_move rfl (.mk (v := .int _ _) rfl rfl)) ?_)
  refine WL.want rfl (WL1.callP rfl rfl rfl (.cons (.mk (v := .int _ _) rfl rfl) .nil) (fun w hw => hpos w) ?_)
  refine WL.want rfl (WL1.give rfl (g_notT rfl (.mk rfl rfl)) ?_)
  refine WL.want rfl (WL1.give rfl (g_move rfl (.mk (v := .bool _) rfl rfl)) ?_)
  refine WL.wantG rfl rfl rfl rfl (WL1.give rfl (g_move rfl (.mk (v := .slice _ _ _) rfl rfl)) ?_)
  refine WL.wantG rfl rfl rfl rfl (WL1.give rfl (g_len rfl (.mk rfl rfl) rfl) ?_)
  refine WL.wantG rfl rfl rfl rfl (WL1.give rfl (g_move rfl (.mk (v := .int _ _) rfl rfl)) ?_)
  refine WL.wantG rfl rfl rfl rfl (WL1.give rfl (g_ne rfl (.mk rfl rfl) (.mk rfl rfl) (decide_eq_false (by omega))) ?_)
  refine WL.want rfl (WL1.give rfl (g_pickF rfl (.mk rfl rfl) (.mk (v := .bool _) rfl rfl)) ?_)
  refine WL.nil ?_
  (refine hK _ _ ?_; clear hK)
  refine WC.cond_false (.mk rfl rfl) ?_
  refine WC.skip ?_
  (refine hK _ _ ?_; clear hK)
  (refine WC.seq ?_; intro K hK)
  refine WC.region rfl ?_
  refine WL.want rfl (WL1.give rfl (g_assign rfl (.mk (v := .slice _ _ _) rfl rfl)) ?_)
  refine WL.nil ?_
  (refine hK _ _ ?_; clear hK)
  (refine WC.seq ?_; intro K hK)
  refine WC.region rfl ?_
  refine WL.want rfl (WL1.give rfl (g_assign rfl (.mk (v := .slice _ _ _) rfl rfl)) ?_)
  refine WL.nil ?_
  (refine hK _ _ ?_; clear hK)
  (refine WC.seq ?_; intro K hK)
  (refine WC.seq ?_; intro K hK)
  refine WC.region rfl ?_
  refine WL.want rfl (WL1.give rfl (g_move rfl (.mk (v := .slice _ _ _) rfl rfl)) ?_)
  refine WL.want rfl (WL1.give rfl (g_len rfl (.mk rfl rfl) rfl) ?_)
  refine WL.want rfl (WL1.give rfl (g_move rfl (.mk (v := .int _ _) rfl rfl)) ?_)
  refine WL.nil ?_
  (refine hK _ _ ?_; clear hK)
  refine WC.block ?_
  refine WC.nilvec 3 1 (WC.nilvec 33 8 ?_)
  refine WC.loopF5 (fun (i : Nat) (F : Option Addr) (fc : Nat) (Y : Option Addr) (yc : Nat) => [(29, iv i), (7, .slice F (gdT bs n i).length fc), (8, .slice Y (gdT bs n i).length yc), (0, .slice A m c), (1, .slice B m d), (6, iv m), (27, .slice B m d), (28, iv m), (4, .slice none 0 0), (5, iv 0)]) (fun i F fc Y yc => [vec F (gdT bs n i).length fc 3 1 (ldv (gdT bs n i)), vec Y (gdT bs n i).length yc 33 8 (kvs ((gdT bs n i).map (nth ps)))]) (fun i _ _ _ _ => i ≤ m) (fun i _ _ _ _ => m - i) 0 none 0 none 0 (by repeat (first | exact trivial | refine ⟨rfl, ?_⟩)) (Imp.pick (A := vec none 0 0 3 1 []) (by repeat (first | exact .head | apply Take.tail)) (Imp.pick (A := vec none 0 0 33 8 []) (by repeat (first | exact .head | apply Take.tail)) (Imp.nil _))) (by omega) ?_
  intro i F fc Y yc U hi
  have hgl := gdT_len (bs := bs) (n := n) i
  obtain ⟨g, hg⟩ : ∃ g, g = gdT bs n i := ⟨_, rfl⟩
  rw [← hg] at hgl ⊢
  have hml : (g.map (nth ps)).length = g.length := by rw [List.length_map]
  by_cases hlt : i < m
  · have hgv := bls_get (l := bs) (k := i) (by omega)
    cases hbi : nth bs i with
    | true =>
      rw [hbi] at hgv
      have hst : gdT bs n (i + 1) = g := by rw [gdT_bad hbi, hg]
      (refine WC.seq ?_; intro K hK)
      refine WC.region rfl ?_
      refine WL.want rfl (WL1.give rfl (g_lt rfl (.mk rfl rfl) (.mk rfl rfl) (decide_eq_true (by omega))) ?_)
      refine WL.nil ?_
      (refine hK _ _ ?_; clear hK)
      (refine WC.seq ?_; intro K hK)
      refine WC.cond_true (.mk rfl rfl) ?_
      refine WC.skip ?_
      (refine hK _ _ ?_; clear hK)
      (refine WC.seq ?_; intro K hK)
      refine WC.block ?_
      (refine WC.seq ?_; intro K hK)
      refine WC.region rfl ?_
      refine WL.want rfl (WL1.give rfl (g_move rfl (.mk (v := .int _ _) rfl rfl)) ?_)
      refine WL.want rfl (WL1.give rfl (g_indexAddr (sz := 1) rfl (.mk rfl rfl) (.mk rfl rfl) rfl rfl rfl (by omega) (fun _ _ => sl_some hsb (by omega))) ?_)
      refine WL.want rfl (WL1.give rfl (g_load rfl (.mk rfl rfl) rfl (rd_sl hsb hgv)) ?_)
      refine WL.want rfl (WL1.give rfl (g_assign rfl (.mk (v := .int _ _) rfl rfl)) ?_)
      refine WL.want rfl (WL1.give rfl (g_assign rfl (.mk (v := .bool _) rfl rfl)) ?_)
      refine WL.nil ?_
      (refine hK _ _ ?_; clear hK)
      (refine WC.seq ?_; intro K hK)
      refine WC.region rfl ?_
      refine WL.want rfl (WL1.give rfl (g_move rfl (.mk (v := .bool _) rfl rfl)) ?_)
      refine WL.want rfl (WL1.give rfl (g_notT rfl (.mk rfl rfl)) ?_)
      refine WL.want rfl (WL1.give rfl (g_move rfl (.mk (v := .bool _) rfl rfl)) ?_)
      refine WL.skipG rfl rfl rfl rfl rfl rfl ?_
      refine WL.skipG rfl rfl rfl rfl rfl rfl ?_
      refine WL.skipG rfl rfl rfl rfl rfl rfl ?_
      refine WL.skipG rfl rfl rfl rfl rfl rfl ?_
      refine WL.skipG rfl rfl rfl rfl rfl rfl ?_
      refine WL.want rfl (WL1.give rfl (g_pickF rfl (.mk rfl rfl) (.mk (v := .bool _) rfl rfl)) ?_)
      refine WL.nil ?_
      (refine hK _ _ ?_; clear hK)
      refine WC.cond_false (.mk rfl rfl) ?_
      refine WC.skip ?_
      (refine hK _ _ ?_; clear hK)
      refine WC.region rfl ?_
      refine WL.want rfl (WL1.give rfl (g_add rfl (.mk rfl rfl) (.mk rfl rfl) (IntWalk.i64_in _ (by omega))) ?_)
      refine WL.want rfl (WL1.give rfl (g_move rfl (.mk (v := .int _ _) rfl rfl)) ?_)
      refine WL.nil ?_
      exact ⟨i + 1, F, fc, Y, yc, by rw [hst]; exact (by repeat (first | exact trivial | refine ⟨rfl, ?_⟩)), by rw [hst]; exact .refl _, by omega, by omega⟩
    | false =>
      rw [hbi] at hgv
      by_cases hfl : g.length < n
      · have hst : gdT bs n (i + 1) = g ++ [i] := by rw [gdT_take hbi (by rw [← hg]; exact hfl), hg]
        have hgd : ∀ j u, (nth ps i).cells[j]? = some u → (kvs ps)[i * 8 + j]? = some u := fun j u h => flat_row blk8 (by omega) j u h
        have hl1 : (g ++ [i]).length = g.length + 1 := by rw [List.length_append]; rfl
        have hmp : (g ++ [i]).map (nth ps) = g.map (nth ps) ++ [nth ps i] := by rw [List.map_append]; rfl
        have hbb : ∀ {w' : World} {L' : List Asrt} {b : Nat} (hw : H w L' w') (hm : vec (some ⟨b, 0, none⟩) 1 1 33 8 (nth ps i).cells ∈ L'), Sl w' 8 (.slice (some ⟨b, 0, none⟩) 1 1) 1 (nth ps i).cells := fun hw hm => Sl.of_vec hw hm
        (refine WC.seq ?_; intro K hK)
        refine WC.region rfl ?_
        refine WL.want rfl (WL1.give rfl (g_lt rfl (.mk rfl rfl) (.mk rfl rfl) (decide_eq_true (by omega))) ?_)
        refine WL.nil ?_
        (refine hK _ _ ?_; clear hK)
        (refine WC.seq ?_; intro K hK)
        refine WC.cond_true (.mk rfl rfl) ?_
        refine WC.skip ?_
        (refine hK _ _ ?_; clear hK)
        (refine WC.seq ?_; intro K hK)
        refine WC.block ?_
        (refine WC.seq ?_; intro K hK)
        refine WC.region rfl ?_
        refine WL.want rfl (WL1.give rfl (g_move rfl (.mk (v := .int _ _) rfl rfl)) ?_)
        refine WL.want rfl (WL1.give rfl (g_indexAddr (sz := 1) rfl (.mk rfl rfl) (.mk rfl rfl) rfl rfl rfl (by omega) (fun _ _ => sl_some hsb (by omega))) ?_)
        refine WL.want rfl (WL1.give rfl (g_load rfl (.mk rfl rfl) rfl (rd_sl hsb hgv)) ?_)
        refine WL.want rfl (WL1.give rfl (g_assign rfl (.mk (v := .int _ _) rfl rfl)) ?_)
        refine WL.want rfl (WL1.give rfl (g_assign rfl (.mk (v := .bool _) rfl rfl)) ?_)
        refine WL.nil ?_
        (refine hK _ _ ?_; clear hK)
        (refine WC.seq ?_; intro K hK)
        refine WC.region rfl ?_
        refine WL.want rfl (WL1.give rfl (g_move rfl (.mk (v := .bool _) rfl rfl)) ?_)
        refine WL.want rfl (WL1.give rfl (g_notF rfl (.mk rfl rfl)) ?_)
        refine WL.want rfl (WL1.give rfl (g_move rfl (.mk (v := .bool _) rfl rfl)) ?_)
        refine WL.wantG rfl rfl rfl rfl (WL1.give rfl (g_move rfl (.mk (v := .slice _ _ _) rfl rfl)) ?_)
        refine WL.wantG rfl rfl rfl rfl (WL1.give rfl (g_len rfl (.mk rfl rfl) rfl) ?_)
        refine WL.wantG rfl rfl rfl rfl (WL1.give rfl (g_move rfl (.mk (v := .int _ _) rfl rfl)) ?_)
        refine WL.wantG rfl rfl rfl rfl (WL1.give rfl (g_sub rfl (.mk rfl rfl) (.mk rfl rfl) hsub) ?_)
        refine WL.wantG rfl rfl rfl rfl (WL1.give rfl (g_lt rfl (.mk rfl rfl) (.mk rfl rfl) (decide_eq_true (by omega))) ?_)
        refine WL.want rfl (WL1.give rfl (g_pickT rfl (.mk rfl rfl) (.mk (v := .bool _) rfl rfl)) ?_)
        refine WL.nil ?_
        (refine hK _ _ ?_; clear hK)
        refine WC.cond_true (.mk rfl rfl) ?_
        refine WC.until [] [] rfl (by kernel_rfl) ?_
        refine WB.takeP 0 rfl (by decide +kernel) (by decide +kernel) (by decide +kernel) (by decide +kernel) rfl rfl (.inr (Imp.sub (by first | ((repeat (first | exact List.nil_sublist _ | exact List.Sublist.refl _ | apply List.Sublist.cons_cons | apply List.Sublist.cons)); done) | fail))) (g_move rfl (.mk (v := .slice _ _ _) rfl rfl)) ?_
        refine WB.takeP 1 rfl (by decide +kernel) (by decide +kernel) (by decide +kernel) (by decide +kernel) rfl rfl (.inr (Imp.sub (by first | ((repeat (first | exact List.nil_sublist _ | exact List.Sublist.refl _ | apply List.Sublist.cons_cons | apply List.Sublist.cons)); done) | fail))) (g_move rfl (.mk (v := .int _ _) rfl rfl)) ?_
        refine WB.takeP 4 rfl (by decide +kernel) (by decide +kernel) (by decide +kernel) (by decide +kernel) rfl rfl (.inr (Imp.sub (by first | ((repeat (first | exact List.nil_sublist _ | exact List.Sublist.refl _ | apply List.Sublist.cons_cons | apply List.Sublist.cons)); done) | fail))) (g_move rfl (.mk (v := .slice _ _ _) rfl rfl)) ?_
        refine WB.takeP 5 rfl (by decide +kernel) (by decide +kernel) (by decide +kernel) (by decide +kernel) rfl rfl (.inr (Imp.sub (by first | ((repeat (first | exact List.nil_sublist _ | exact List.Sublist.refl _ | apply List.Sublist.cons_cons | apply List.Sublist.cons)); done) | fail))) (g_move rfl (.mk (v := .slice _ _ _) rfl rfl)) ?_
        refine WB.takeP 6 rfl (by decide +kernel) (by decide +kernel) (by decide +kernel) (by decide +kernel) rfl rfl (.inr (Imp.sub (by first | ((repeat (first | exact List.nil_sublist _ | exact List.Sublist.refl _ | apply List.Sublist.cons_cons | apply List.Sublist.cons)); done) | fail))) (g_move rfl (.mk (v := .int _ _) rfl rfl)) ?_
        refine WB.takeP 7 rfl (by decide +kernel) (by decide +kernel) (by decide +kernel) (by decide +kernel) rfl rfl (.inr (Imp.sub (by first | ((repeat (first | exact List.nil_sublist _ | exact List.Sublist.refl _ | apply List.Sublist.cons_cons | apply List.Sublist.cons)); done) | fail))) (g_indexAddr (sz := 8) rfl (.mk rfl rfl) (.mk rfl rfl) rfl rfl rfl (by omega) (fun _ _ => sl_some hs (by omega))) ?_
        refine WB.take 8 rfl (by decide +kernel) (by decide +kernel) (by decide +kernel) (by decide +kernel) rfl rfl (Imp.sub (by first | ((repeat (first | exact List.nil_sublist _ | exact List.Sublist.refl _ | apply List.Sublist.cons_cons | apply List.Sublist.cons)); done) | fail)) (g_loadA rfl (.mk rfl rfl) rfl (sz8 _) (rdr_sl hs (by omega) hgd)) ?_
        refine WB.two 2 9 (by decide +kernel) rfl rfl rfl rfl ?_ ?_
        refine WL1.lit (cs := [_]) elI rfl rfl rfl (.cons (.mk (v := .int _ _) rfl rfl) .nil) rfl (by first | (simp [Value.cells]; done) | fail) rfl rfl (fun b45 => ?_)
        refine WL.nil ?_
        refine ⟨.inr (Imp.sub (by first | ((repeat (first | exact List.nil_sublist _ | exact List.Sublist.refl _ | apply List.Sublist.cons_cons | apply List.Sublist.cons)); done) | fail)), ?_⟩
        refine WB.two 3 9 (by decide +kernel) rfl rfl rfl rfl ?_ ?_
        refine WL1.append elI rfl rfl (.mk rfl rfl) (.mk rfl rfl) (.tail (.head)) (fun w hw => Sl.of_vec hw (.head _)) (all1 rfl) (by unfold maxLen; omega) (by omega) (fun A46 c46 => ?_)
        refine WL.nil ?_
        refine ⟨.inr (Imp.sub (by first | ((repeat (first | exact List.nil_sublist _ | exact List.Sublist.refl _ | apply List.Sublist.cons_cons | apply List.Sublist.cons)); done) | fail)), ?_⟩
        refine WB.one 9 (by decide +kernel) rfl rfl ?_
        refine WL1.lit elK rfl rfl rfl (.cons (.mk (v := .agg _) rfl rfl) .nil) rfl (by first | (simp [Value.cells, Blk.len]; done) | fail) (List.append_nil _) rfl (fun b52 => ?_)
        refine WL.nil ?_
        refine ⟨.inr (Imp.sub (by first | ((repeat (first | exact List.nil_sublist _ | exact List.Sublist.refl _ | apply List.Sublist.cons_cons | apply List.Sublist.cons)); done) | fail)), ?_⟩
        refine WB.one 10 (by decide +kernel) rfl rfl ?_
        refine WL1.append elK rfl rfl (.mk rfl rfl) (.mk rfl rfl) (.tail (.tail (.tail (.head)))) (fun w hw => Sl.of_vec hw (.head _)) (Blk.one _) (by unfold maxLen; omega) (by omega) (fun A53 c53 => ?_)
        refine WL.nil ?_
        refine ⟨.inr (Imp.sub (by first | ((repeat (first | exact List.nil_sublist _ | exact List.Sublist.refl _ | apply List.Sublist.cons_cons | apply List.Sublist.cons)); done) | fail)), ?_⟩
        refine WB.takeP 11 rfl (by decide +kernel) (by decide +kernel) (by decide +kernel) (by decide +kernel) rfl rfl (.inr (Imp.sub (by first | ((repeat (first | exact List.nil_sublist _ | exact List.Sublist.refl _ | apply List.Sublist.cons_cons | apply List.Sublist.cons)); done) | fail))) (g_assign rfl (.mk (v := .slice _ _ _) rfl rfl)) ?_
        refine WB.takeP 12 rfl (by decide +kernel) (by decide +kernel) (by decide +kernel) (by decide +kernel) rfl rfl (.inr (Imp.sub (by first | ((repeat (first | exact List.nil_sublist _ | exact List.Sublist.refl _ | apply List.Sublist.cons_cons | apply List.Sublist.cons)); done) | fail))) (g_assign rfl (.mk (v := .slice _ _ _) rfl rfl)) ?_
        refine WB.done (by decide +kernel) ?_
        (refine hK _ _ ?_; clear hK)
        refine WC.region rfl ?_
        refine WL.want rfl (WL1.give rfl (g_add rfl (.mk rfl rfl) (.mk rfl rfl) (IntWalk.i64_in _ (by omega))) ?_)
        refine WL.want rfl (WL1.give rfl (g_move rfl (.mk (v := .int _ _) rfl rfl)) ?_)
        refine WL.nil ?_
        rotate_left
        refine WL1.lit elK rfl rfl rfl (.cons (.mk (v := .agg _) rfl rfl) .nil) rfl (by first | (simp [Value.cells, Blk.len]; done) | fail) (List.append_nil _) rfl (fun b52 => ?_)
        refine WL.nil ?_
        refine ⟨.inr (Imp.sub (by first | ((repeat (first | exact List.nil_sublist _ | exact List.Sublist.refl _ | apply List.Sublist.cons_cons | apply List.Sublist.cons)); done) | fail)), ?_⟩
        refine WB.one 3 (by decide +kernel) rfl rfl ?_
        refine WL1.append elI rfl rfl (.mk rfl rfl) (.mk rfl rfl) (.tail (.tail (.head))) (fun w hw => Sl.of_vec hw (.tail _ (.head _))) (all1 rfl) (by unfold maxLen; omega) (by omega) (fun A46 c46 => ?_)
        refine WL.nil ?_
        refine ⟨.inr (Imp.sub (by first | ((repeat (first | exact List.nil_sublist _ | exact List.Sublist.refl _ | apply List.Sublist.cons_cons | apply List.Sublist.cons)); done) | fail)), ?_⟩
        refine WB.one 10 (by decide +kernel) rfl rfl ?_
        refine WL1.append elK rfl rfl (.mk rfl rfl) (.mk rfl rfl) (.tail (.tail (.tail (.head)))) (fun w hw => Sl.of_vec hw (.tail _ (.head _))) (Blk.one _) (by unfold maxLen; omega) (by omega) (fun A53 c53 => ?_)
        refine WL.nil ?_
        refine ⟨.inr (Imp.sub (by first | ((repeat (first | exact List.nil_sublist _ | exact List.Sublist.refl _ | apply List.Sublist.cons_cons | apply List.Sublist.cons)); done) | fail)), ?_⟩
        refine WB.takeP 11 rfl (by decide +kernel) (by decide +kernel) (by decide +kernel) (by decide +kernel) rfl rfl (.inr (Imp.sub (by first | ((repeat (first | exact List.nil_sublist _ | exact List.Sublist.refl _ | apply List.Sublist.cons_cons | apply List.Sublist.cons)); done) | fail))) (g_assign rfl (.mk (v := .slice _ _ _) rfl rfl)) ?_
        refine WB.takeP 12 rfl (by decide +kernel) (by decide +kernel) (by decide +kernel) (by decide +kernel) rfl rfl (.inr (Imp.sub (by first | ((repeat (first | exact List.nil_sublist _ | exact List.Sublist.refl _ | apply List.Sublist.cons_cons | apply List.Sublist.cons)); done) | fail))) (g_assign rfl (.mk (v := .slice _ _ _) rfl rfl)) ?_
        refine WB.done (by decide +kernel) ?_
        (refine hK _ _ ?_; clear hK)
        refine WC.region rfl ?_
        refine WL.want rfl (WL1.give rfl (g_add rfl (.mk rfl rfl) (.mk rfl rfl) (IntWalk.i64_in _ (by omega))) ?_)
        refine WL.want rfl (WL1.give rfl (g_move rfl (.mk (v := .int _ _) rfl rfl)) ?_)
        refine WL.nil ?_
        rotate_left
        refine WL1.lit elK rfl rfl rfl (.cons (.mk (v := .agg _) rfl rfl) .nil) rfl (by first | (simp [Value.cells, Blk.len]; done) | fail) (List.append_nil _) rfl (fun b52 => ?_)
        refine WL.nil ?_
        refine ⟨.inr (Imp.sub (by first | ((repeat (first | exact List.nil_sublist _ | exact List.Sublist.refl _ | apply List.Sublist.cons_cons | apply List.Sublist.cons)); done) | fail)), ?_⟩
        refine WB.one 2 (by decide +kernel) rfl rfl ?_
        refine WL1.lit (cs := [_]) elI rfl rfl rfl (.cons (.mk (v := .int _ _) rfl rfl) .nil) rfl (by first | (simp [Value.cells]; done) | fail) rfl rfl (fun b45 => ?_)
        refine WL.nil ?_
        refine ⟨.inr (Imp.sub (by first | ((repeat (first | exact List.nil_sublist _ | exact List.Sublist.refl _ | apply List.Sublist.cons_cons | apply List.Sublist.cons)); done) | fail)), ?_⟩
        refine WB.one 3 (by decide +kernel) rfl rfl ?_
        refine WL1.append elI rfl rfl (.mk rfl rfl) (.mk rfl rfl) (.tail (.tail (.head))) (fun w hw => Sl.of_vec hw (.head _)) (all1 rfl) (by unfold maxLen; omega) (by omega) (fun A46 c46 => ?_)
        refine WL.nil ?_
        refine ⟨.inr (Imp.sub (by first | ((repeat (first | exact List.nil_sublist _ | exact List.Sublist.refl _ | apply List.Sublist.cons_cons | apply List.Sublist.cons)); done) | fail)), ?_⟩
        refine WB.one 10 (by decide +kernel) rfl rfl ?_
        refine WL1.append elK rfl rfl (.mk rfl rfl) (.mk rfl rfl) (.tail (.tail (.tail (.head)))) (fun w hw => Sl.of_vec hw (.tail _ (.tail _ (.head _)))) (Blk.one _) (by unfold maxLen; omega) (by omega) (fun A53 c53 => ?_)
        refine WL.nil ?_
        refine ⟨.inr (Imp.sub (by first | ((repeat (first | exact List.nil_sublist _ | exact List.Sublist.refl _ | apply List.Sublist.cons_cons | apply List.Sublist.cons)); done) | fail)), ?_⟩
        refine WB.takeP 11 rfl (by decide +kernel) (by decide +kernel) (by decide +kernel) (by decide +kernel) rfl rfl (.inr (Imp.sub (by first | ((repeat (first | exact List.nil_sublist _ | exact List.Sublist.refl _ | apply List.Sublist.cons_cons | apply List.Sublist.cons)); done) | fail))) (g_assign rfl (.mk (v := .slice _ _ _) rfl rfl)) ?_
        refine WB.takeP 12 rfl (by decide +kernel) (by decide +kernel) (by decide +kernel) (by decide +kernel) rfl rfl (.inr (Imp.sub (by first | ((repeat (first | exact List.nil_sublist _ | exact List.Sublist.refl _ | apply List.Sublist.cons_cons | apply List.Sublist.cons)); done) | fail))) (g_assign rfl (.mk (v := .slice _ _ _) rfl rfl)) ?_
        refine WB.done (by decide +kernel) ?_
        (refine hK _ _ ?_; clear hK)
        refine WC.region rfl ?_
        refine WL.want rfl (WL1.give rfl (g_add rfl (.mk rfl rfl) (.mk rfl rfl) (IntWalk.i64_in _ (by omega))) ?_)
        refine WL.want rfl (WL1.give rfl (g_move rfl (.mk (v := .int _ _) rfl rfl)) ?_)
        refine WL.nil ?_
        rotate_left
        all_goals refine ⟨i + 1, A46, c46, A53, c53, by rw [hst, hl1]; exact (by repeat (first | exact trivial | refine ⟨rfl, ?_⟩)), ?_, by omega, by omega⟩
        all_goals rw [hst, hl1, hmp, ← ldv_snoc, ← kvs_snoc]
        all_goals exact Imp.pick (by repeat (first | exact .head | apply Take.tail)) (Imp.pick (by repeat (first | exact .head | apply Take.tail)) (Imp.nil _))
      · have hst : gdT bs n (i + 1) = g := by rw [gdT_over (by rw [← hg]; exact hfl), hg]
        (refine WC.seq ?_; intro K hK)
        refine WC.region rfl ?_
        refine WL.want rfl (WL1.give rfl (g_lt rfl (.mk rfl rfl) (.mk rfl rfl) (decide_eq_true (by omega))) ?_)
        refine WL.nil ?_
        (refine hK _ _ ?_; clear hK)
        (refine WC.seq ?_; intro K hK)
        refine WC.cond_true (.mk rfl rfl) ?_
        refine WC.skip ?_
        (refine hK _ _ ?_; clear hK)
        (refine WC.seq ?_; intro K hK)
        refine WC.block ?_
        (refine WC.seq ?_; intro K hK)
        refine WC.region rfl ?_
        refine WL.want rfl (WL1.give rfl (g_move rfl (.mk (v := .int _ _) rfl rfl)) ?_)
        refine WL.want rfl (WL1.give rfl (g_indexAddr (sz := 1) rfl (.mk rfl rfl) (.mk rfl rfl) rfl rfl rfl (by omega) (fun _ _ => sl_some hsb (by omega))) ?_)
        refine WL.want rfl (WL1.give rfl (g_load rfl (.mk rfl rfl) rfl (rd_sl hsb hgv)) ?_)
        refine WL.want rfl (WL1.give rfl (g_assign rfl (.mk (v := .int _ _) rfl rfl)) ?_)
        refine WL.want rfl (WL1.give rfl (g_assign rfl (.mk (v := .bool _) rfl rfl)) ?_)
        refine WL.nil ?_
        (refine hK _ _ ?_; clear hK)
        (refine WC.seq ?_; intro K hK)
        refine WC.region rfl ?_
        refine WL.want rfl (WL1.give rfl (g_move rfl (.mk (v := .bool _) rfl rfl)) ?_)
        refine WL.want rfl (WL1.give rfl (g_notF rfl (.mk rfl rfl)) ?_)
        refine WL.want rfl (WL1.give rfl (g_move rfl (.mk (v := .bool _) rfl rfl)) ?_)
        refine WL.wantG rfl rfl rfl rfl (WL1.give rfl (g_move rfl (.mk (v := .slice _ _ _) rfl rfl)) ?_)
        refine WL.wantG rfl rfl rfl rfl (WL1.give rfl (g_len rfl (.mk rfl rfl) rfl) ?_)
        refine WL.wantG rfl rfl rfl rfl (WL1.give rfl (g_move rfl (.mk (v := .int _ _) rfl rfl)) ?_)
        refine WL.wantG rfl rfl rfl rfl (WL1.give rfl (g_sub rfl (.mk rfl rfl) (.mk rfl rfl) hsub) ?_)
        refine WL.wantG rfl rfl rfl rfl (WL1.give rfl (g_lt rfl (.mk rfl rfl) (.mk rfl rfl) (decide_eq_false (by omega))) ?_)
        refine WL.want rfl (WL1.give rfl (g_pickT rfl (.mk rfl rfl) (.mk (v := .bool _) rfl rfl)) ?_)
        refine WL.nil ?_
        (refine hK _ _ ?_; clear hK)
        refine WC.cond_false (.mk rfl rfl) ?_
        refine WC.skip ?_
        (refine hK _ _ ?_; clear hK)
        refine WC.region rfl ?_
        refine WL.want rfl (WL1.give rfl (g_add rfl (.mk rfl rfl) (.mk rfl rfl) (IntWalk.i64_in _ (by omega))) ?_)
        refine WL.want rfl (WL1.give rfl (g_move rfl (.mk (v := .int _ _) rfl rfl)) ?_)
        refine WL.nil ?_
        exact ⟨i + 1, F, fc, Y, yc, by rw [hst]; exact (by repeat (first | exact trivial | refine ⟨rfl, ?_⟩)), by rw [hst]; exact .refl _, by omega, by omega⟩
  · obtain rfl : i = m := by omega
    have hcl := cnt_le (bs := bs) i
    by_cases hfl : g.length < n
    · (refine WC.seq ?_; intro K hK)
      refine WC.region rfl ?_
      refine WL.want rfl (WL1.give rfl (g_lt rfl (.mk rfl rfl) (.mk rfl rfl) (decide_eq_false (by omega))) ?_)
      refine WL.nil ?_
      (refine hK _ _ ?_; clear hK)
      (refine WC.seq ?_; intro K hK)
      refine WC.cond_false (.mk rfl rfl) ?_
      refine WC.exit ?_
      (clear hK; refine hK _ _ ?_; clear hK)
      (refine WC.seq ?_; intro K hK)
      (refine WC.seq ?_; intro K hK)
      refine WC.region rfl ?_
      refine WL.want rfl (WL1.give rfl (g_move rfl (.mk (v := .slice _ _ _) rfl rfl)) ?_)
      refine WL.want rfl (WL1.give rfl (g_len rfl (.mk rfl rfl) rfl) ?_)
      refine WL.want rfl (WL1.give rfl (g_move rfl (.mk (v := .int _ _) rfl rfl)) ?_)
      refine WL.want rfl (WL1.give rfl (g_sub rfl (.mk rfl rfl) (.mk rfl rfl) hsub) ?_)
      refine WL.want rfl (WL1.give rfl (g_lt rfl (.mk rfl rfl) (.mk rfl rfl) (decide_eq_true (by omega))) ?_)
      refine WL.nil ?_
      (refine hK _ _ ?_; clear hK)
      refine WC.cond_true (.mk rfl rfl) ?_
      (refine WC.seq ?_; intro K hK)
      refine WC.region rfl ?_
      refine WL.want rfl (WL1.give rfl (g_assign rfl (.mk (v := .slice _ _ _) rfl rfl)) ?_)
      refine WL.want rfl (WL1.give rfl (g_assign rfl (.mk (v := .int _ _) rfl rfl)) ?_)
      refine WL.nil ?_
      (refine hK _ _ ?_; clear hK)
      refine WC.ret ?_
      exact fun w' hw' => ⟨_, _, rfl, hw', .inl ⟨by omega, rfl⟩⟩
    · have hc3 : cnt bs (n + 3) ≤ 3 := by rw [← hmn]; omega
      have hgn : g.length = n := by omega
      have hw := gdT_wfr hc3
      rw [← hmn, ← hg] at hw
      have hcln : ∀ w', Below w.heap.size w w' → Calls Try.prog 37 #[.slice A i c] w' fun e w2 => ∃ v' M, e = .returned v' ∧ H w' M w2 ∧ ∃ A c, v' = .slice A i c ∧ M = [vec A i c 33 8 (kvs (decP ps bs n 0))] := fun w' hb => by
        have := clone_n (.slice A i c) ps w' (by rw [hpl]; exact hs.below hb) (by omega) (by omega)
        rwa [hpl, ← decP_zero (bs := bs) (by omega : ps.length = n + 3)] at this
      rw [hgn]
      (refine WC.seq ?_; intro K hK)
      refine WC.region rfl ?_
      refine WL.want rfl (WL1.give rfl (g_lt rfl (.mk rfl rfl) (.mk rfl rfl) (decide_eq_false (by omega))) ?_)
      refine WL.nil ?_
      (refine hK _ _ ?_; clear hK)
      (refine WC.seq ?_; intro K hK)
      refine WC.cond_false (.mk rfl rfl) ?_
      refine WC.exit ?_
      (clear hK; refine hK _ _ ?_; clear hK)
      (refine WC.seq ?_; intro K hK)
      (refine WC.seq ?_; intro K hK)
      refine WC.region rfl ?_
      refine WL.want rfl (WL1.give rfl (g_move rfl (.mk (v := .slice _ _ _) rfl rfl)) ?_)
      refine WL.want rfl (WL1.give rfl (g_len rfl (.mk rfl rfl) rfl) ?_)
      refine WL.want rfl (WL1.give rfl (g_move rfl (.mk (v := .int _ _) rfl rfl)) ?_)
      refine WL.want rfl (WL1.give rfl (g_sub rfl (.mk rfl rfl) (.mk rfl rfl) hsub) ?_)
      refine WL.want rfl (WL1.give rfl (g_lt rfl (.mk rfl rfl) (.mk rfl rfl) (decide_eq_false (by omega))) ?_)
      refine WL.nil ?_
      (refine hK _ _ ?_; clear hK)
      refine WC.cond_false (.mk rfl rfl) ?_
      refine WC.skip ?_
      (refine hK _ _ ?_; clear hK)
      (refine WC.seq ?_; intro K hK)
      refine WC.region rfl ?_
      refine WL.want rfl (WL1.give rfl (g_move rfl (.mk (v := .slice _ _ _) rfl rfl)) ?_)
      (refine WL.want rfl (WL1.callN rfl rfl rfl (.cons (.mk (v := .slice _ _ _) rfl rfl) .nil) (fun w hw => hcln w hw.1) ?_); rintro _ _ ⟨Ac, cc, rfl, rfl⟩)
      refine WL.want rfl (WL1.give rfl (g_assign rfl (.mk (v := .slice _ _ _) rfl rfl)) ?_)
      refine WL.nil ?_
      (refine hK _ _ ?_; clear hK)
      (refine WC.seq ?_; intro K hK)
      (refine WC.seq ?_; intro K hK)
      refine WC.region rfl ?_
      refine WL.want rfl (WL1.give rfl (g_move rfl (.mk (v := .slice _ _ _) rfl rfl)) ?_)
      refine WL.want rfl (WL1.give rfl (g_len rfl (.mk rfl rfl) rfl) ?_)
      refine WL.want rfl (WL1.give rfl (g_move rfl (.mk (v := .int _ _) rfl rfl)) ?_)
      refine WL.nil ?_
      (refine hK _ _ ?_; clear hK)
      refine WC.block ?_
      refine WC.loopF (fun j : Nat => [(64, iv j), (6, iv i), (7, .slice F n fc), (8, .slice Y n yc), (11, .slice Ac i cc), (62, .slice B i d), (63, iv i), (4, .slice none 0 0), (5, iv 0)]) (fun j => [vec Ac i cc 33 8 (kvs (decP ps bs n j)), vec F n fc 3 1 (ldv g), vec Y n yc 33 8 (kvs (g.map (nth ps)))]) (fun j => j ≤ i) (fun j => i - j) 0 (by repeat (first | exact trivial | refine ⟨rfl, ?_⟩)) (.refl _) (by omega) ?_
      intro j V hj
      have hdl := decP_len ps bs n j
      have hkl : (kvs (decP ps bs n j)).length = i * 8 := by rw [kvs_len, hdl, hmn]
      by_cases hlt2 : j < i
      · have hgv := bls_get (l := bs) (k := j) (by omega)
        cases hbj : nth bs j with
        | false =>
          rw [hbj] at hgv
          (refine WC.seq ?_; intro K hK)
          refine WC.region rfl ?_
          refine WL.want rfl (WL1.give rfl (g_lt rfl (.mk rfl rfl) (.mk rfl rfl) (decide_eq_true (by omega))) ?_)
          refine WL.nil ?_
          (refine hK _ _ ?_; clear hK)
          (refine WC.seq ?_; intro K hK)
          refine WC.cond_true (.mk rfl rfl) ?_
          refine WC.skip ?_
          (refine hK _ _ ?_; clear hK)
          (refine WC.seq ?_; intro K hK)
          refine WC.block ?_
          (refine WC.seq ?_; intro K hK)
          refine WC.region rfl ?_
          refine WL.want rfl (WL1.give rfl (g_move rfl (.mk (v := .int _ _) rfl rfl)) ?_)
          refine WL.want rfl (WL1.give rfl (g_indexAddr (sz := 1) rfl (.mk rfl rfl) (.mk rfl rfl) rfl rfl rfl (by omega) (fun _ _ => sl_some hsb (by omega))) ?_)
          refine WL.want rfl (WL1.give rfl (g_load rfl (.mk rfl rfl) rfl (rd_sl hsb hgv)) ?_)
          refine WL.want rfl (WL1.give rfl (g_assign rfl (.mk (v := .int _ _) rfl rfl)) ?_)
          refine WL.want rfl (WL1.give rfl (g_assign rfl (.mk (v := .bool _) rfl rfl)) ?_)
          refine WL.nil ?_
          (refine hK _ _ ?_; clear hK)
          (refine WC.seq ?_; intro K hK)
          (refine WC.seq ?_; intro K hK)
          refine WC.region rfl ?_
          refine WL.want rfl (WL1.give rfl (g_move rfl (.mk (v := .bool _) rfl rfl)) ?_)
          refine WL.want rfl (WL1.give rfl (g_notF rfl (.mk rfl rfl)) ?_)
          refine WL.nil ?_
          (refine hK _ _ ?_; clear hK)
          refine WC.cond_true (.mk rfl rfl) ?_
          refine WC.exit ?_
          (clear hK; refine hK _ _ ?_; clear hK)
          refine WC.region rfl ?_
          refine WL.want rfl (WL1.give rfl (g_add rfl (.mk rfl rfl) (.mk rfl rfl) (IntWalk.i64_in _ (by omega))) ?_)
          refine WL.want rfl (WL1.give rfl (g_move rfl (.mk (v := .int _ _) rfl rfl)) ?_)
          refine WL.nil ?_
          exact ⟨j + 1, (by repeat (first | exact trivial | refine ⟨rfl, ?_⟩)), by rw [decP_skip (by rw [hbj]; exact Bool.false_ne_true)]; exact .refl _, by omega, by omega⟩
        | true =>
          rw [hbj] at hgv
          have hwt : ∀ w', Sl w' 1 (.slice F n fc) n (ldv g) → Calls Try.prog 12 #[iv i, .slice F n fc, iv j] w' fun e w2 => ∃ v' M, e = .returned v' ∧ H w' M w2 ∧ ∃ A c, v' = .tuple #[.slice A n c, iv 0] ∧ M = [vec A n c 5 1 (bvs (wts n g j))] := fun w' h => weights_n _ i n j g w' (by rw [hgn]; exact h) hmn h1 h2 hw hlt2
          have hwl := wts_len n g j
          have hcb : ∀ (v1 : Value) (w' : World), Sl w' 1 v1 n (bvs (wts n g j)) → Sl w' 8 (.slice Y n yc) n (kvs (g.map (nth ps))) → Calls Try.prog 15 #[v1, .slice Y n yc] w' fun e w2 => e = .returned (.tuple #[kv (comb (wts n g j) (g.map (nth ps)) n), iv 0]) ∧ Below w'.heap.size w' w2 := fun v1 w' q1 q2 => by
            have := combine_e v1 (.slice Y n yc) (wts n g j) (g.map (nth ps)) w' (by rw [hwl]; exact q1) (by rw [hml, hgn]; exact q2) (by rw [hwl, hml, hgn]) (by omega)
            rwa [hwl] at this
          have hset : (decP ps bs n j).set j (comb (wts n g j) (g.map (nth ps)) n) = decP ps bs n (j + 1) := by
            have := decP_set (ps := ps) (bs := bs) (n := n) (j := j) (by omega) hbj
            rwa [← hmn, ← hg] at this
          have hsp : ∀ i0 v0, i0 = j * 8 → v0 = (comb (wts n g j) (g.map (nth ps)) n).cells → spl (kvs (decP ps bs n j)) i0 v0 = kvs (decP ps bs n (j + 1)) := fun i0 v0 h h' => (kvs_spl (by omega) h h').trans (congrArg kvs hset)
          (refine WC.seq ?_; intro K hK)
          refine WC.region rfl ?_
          refine WL.want rfl (WL1.give rfl (g_lt rfl (.mk rfl rfl) (.mk rfl rfl) (decide_eq_true (by omega))) ?_)
          refine WL.nil ?_
          (refine hK _ _ ?_; clear hK)
          (refine WC.seq ?_; intro K hK)
          refine WC.cond_true (.mk rfl rfl) ?_
          refine WC.skip ?_
          (refine hK _ _ ?_; clear hK)
          (refine WC.seq ?_; intro K hK)
          refine WC.block ?_
          (refine WC.seq ?_; intro K hK)
          refine WC.region rfl ?_
          refine WL.want rfl (WL1.give rfl (g_move rfl (.mk (v := .int _ _) rfl rfl)) ?_)
          refine WL.want rfl (WL1.give rfl (g_indexAddr (sz := 1) rfl (.mk rfl rfl) (.mk rfl rfl) rfl rfl rfl (by omega) (fun _ _ => sl_some hsb (by omega))) ?_)
          refine WL.want rfl (WL1.give rfl (g_load rfl (.mk rfl rfl) rfl (rd_sl hsb hgv)) ?_)
          refine WL.want rfl (WL1.give rfl (g_assign rfl (.mk (v := .int _ _) rfl rfl)) ?_)
          refine WL.want rfl (WL1.give rfl (g_assign rfl (.mk (v := .bool _) rfl rfl)) ?_)
          refine WL.nil ?_
          (refine hK _ _ ?_; clear hK)
          (refine WC.seq ?_; intro K hK)
          (refine WC.seq ?_; intro K hK)
          refine WC.region rfl ?_
          refine WL.want rfl (WL1.give rfl (g_move rfl (.mk (v := .bool _) rfl rfl)) ?_)
          refine WL.want rfl (WL1.give rfl (g_notT rfl (.mk rfl rfl)) ?_)
          refine WL.nil ?_
          (refine hK _ _ ?_; clear hK)
          refine WC.cond_false (.mk rfl rfl) ?_
          refine WC.skip ?_
          (refine hK _ _ ?_; clear hK)
          (refine WC.seq ?_; intro K hK)
          refine WC.region rfl ?_
          refine WL.want rfl (WL1.give rfl (g_move rfl (.mk (v := .int _ _) rfl rfl)) ?_)
          refine WL.want rfl (WL1.give rfl (g_move rfl (.mk (v := .slice _ _ _) rfl rfl)) ?_)
          refine WL.want rfl (WL1.give rfl (g_move rfl (.mk (v := .int _ _) rfl rfl)) ?_)
          (refine WL.want rfl (WL1.callN rfl rfl rfl (.cons (.mk (v := .int _ _) rfl rfl) (.cons (.mk (v := .slice _ _ _) rfl rfl) (.cons (.mk (v := .int _ _) rfl rfl) .nil))) (fun w hw => hwt w (Sl.of_vec hw (by repeat (first | exact .head _ | apply List.Mem.tail)))) ?_); rintro _ _ ⟨Aw, cw, rfl, rfl⟩)
          refine WL.want rfl (WL1.give rfl (g_move rfl (.mk (v := .tuple _) rfl rfl)) ?_)
          refine WL.want rfl (WL1.give rfl (g_extract rfl (.mk rfl rfl) rfl) ?_)
          refine WL.want rfl (WL1.give rfl (g_extract rfl (.mk rfl rfl) rfl) ?_)
          refine WL.want rfl (WL1.give rfl (g_assign rfl (.mk (v := .slice _ _ _) rfl rfl)) ?_)
          refine WL.want rfl (WL1.give rfl (g_assign rfl (.mk (v := .int _ _) rfl rfl)) ?_)
          refine WL.nil ?_
          (refine hK _ _ ?_; clear hK)
          (refine WC.seq ?_; intro K hK)
          (refine WC.seq ?_; intro K hK)
          refine WC.region rfl ?_
          refine WL.want rfl (WL1.give rfl (g_move rfl (.mk (v := .int _ _) rfl rfl)) ?_)
          refine WL.want rfl (WL1.give rfl (g_ne rfl (.mk rfl rfl) (.mk rfl rfl) (decide_eq_false (by omega))) ?_)
          refine WL.nil ?_
          (refine hK _ _ ?_; clear hK)
          refine WC.cond_false (.mk rfl rfl) ?_
          refine WC.skip ?_
          (refine hK _ _ ?_; clear hK)
          refine WC.region rfl ?_
          refine WL.want rfl (WL1.give rfl (g_move rfl (.mk (v := .slice _ _ _) rfl rfl)) ?_)
          refine WL.want rfl (WL1.give rfl (g_move rfl (.mk (v := .int _ _) rfl rfl)) ?_)
          refine WL.want rfl (WL1.give rfl (g_move rfl (.mk (v := .slice _ _ _) rfl rfl)) ?_)
          refine WL.want rfl (WL1.give rfl (g_move rfl (.mk (v := .slice _ _ _) rfl rfl)) ?_)
          refine WL.want rfl (WL1.callP rfl rfl rfl (.cons (.mk (v := .slice _ _ _) rfl rfl) (.cons (.mk (v := .slice _ _ _) rfl rfl) .nil)) (fun w hw => hcb _ w (Sl.of_vec hw (by repeat (first | exact .head _ | apply List.Mem.tail))) (Sl.of_vec hw (by repeat (first | exact .head _ | apply List.Mem.tail)))) ?_)
          refine WL.want rfl (WL1.give rfl (g_move rfl (.mk (v := .tuple _) rfl rfl)) ?_)
          refine WL.want rfl (WL1.give rfl (g_extract rfl (.mk rfl rfl) rfl) ?_)
          refine WL.want rfl (WL1.give rfl (g_extract rfl (.mk rfl rfl) rfl) ?_)
          refine WL.want rfl (WL1.give rfl (g_indexAddr (sz := 8) rfl (.mk rfl rfl) (.mk rfl rfl) rfl rfl rfl (by omega) (fun w hw => vec_some hw (.tail _ (.head _)) (by omega))) ?_)
          refine WL.want rfl (WL1.storeVA rfl rfl (.mk rfl rfl) (.mk rfl rfl) (sz8 _) (Blk.one _) (by first | decide | omega | exact Nat.le_of_ble_eq_true rfl | (simp; done) | (simp; omega) | (rw [Blk.len]; omega)) (by first | omega | (rw [Blk.len]; omega) | (simp; done) | (simp; omega)) (.tail (.head)) ?_)
          refine WL.nil ?_
          (refine hK _ _ ?_; clear hK)
          refine WC.region rfl ?_
          refine WL.want rfl (WL1.give rfl (g_add rfl (.mk rfl rfl) (.mk rfl rfl) (IntWalk.i64_in _ (by omega))) ?_)
          refine WL.want rfl (WL1.give rfl (g_move rfl (.mk (v := .int _ _) rfl rfl)) ?_)
          refine WL.nil ?_
          refine ⟨j + 1, (by repeat (first | exact trivial | refine ⟨rfl, ?_⟩)), ?_, by omega, by omega⟩
          rw [hsp]
          · exact Imp.pick (by repeat (first | exact .head | apply Take.tail)) (Imp.pick (by repeat (first | exact .head | apply Take.tail)) (Imp.pick (by repeat (first | exact .head | apply Take.tail)) (Imp.nil _)))
          · omega
          · rfl
      · obtain rfl : j = i := by omega
        have hfin : decP ps bs n j = decL ps bs n := by rw [decL, hmn]
        rw [hfin]
        (refine WC.seq ?_; intro K hK)
        refine WC.region rfl ?_
        refine WL.want rfl (WL1.give rfl (g_lt rfl (.mk rfl rfl) (.mk rfl rfl) (decide_eq_false (by omega))) ?_)
        refine WL.nil ?_
        (refine hK _ _ ?_; clear hK)
        (refine WC.seq ?_; intro K hK)
        refine WC.cond_false (.mk rfl rfl) ?_
        refine WC.exit ?_
        (clear hK; refine hK _ _ ?_; clear hK)
        (refine WC.seq ?_; intro K hK)
        refine WC.region rfl ?_
        refine WL.want rfl (WL1.give rfl (g_move rfl (.mk (v := .slice _ _ _) rfl rfl)) ?_)
        refine WL.want rfl (WL1.give rfl (g_assign rfl (.mk (v := .slice _ _ _) rfl rfl)) ?_)
        refine WL.want rfl (WL1.give rfl (g_assign rfl (.mk (v := .int _ _) rfl rfl)) ?_)
        refine WL.nil ?_
        (refine hK _ _ ?_; clear hK)
        refine WC.ret ?_
        exact fun w' hw' => ⟨_, _, rfl, hw'.sub (.cons_cons _ (.cons _ (.cons _ .slnil))), .inr ⟨by rw [hmn]; exact hc3, Ac, cc, rfl, rfl⟩⟩
set_option maxRecDepth 20000 in
set_option maxHeartbeats 1000000 in
theorem decode_bad (vp vb : Value) (ps : List Blk) (bs : List Bool) (w : World) (hp : Sl w 8 vp ps.length (kvs ps)) (hb : Sl w 1 vb bs.length (bls bs)) (h : ¬ (4 ≤ ps.length ∧ ps.length ≤ 16 ∧ bs.length = ps.length)) :
    Calls Try.prog 20 #[vp, vb] w fun e w' => e = .returned (.tuple #[.slice none 0 0, iv 1]) ∧ Below w.heap.size w w' := by
  obtain ⟨A, c, rfl, hcc, hm, hs⟩ := hp.open_
  obtain ⟨B, d, rfl, hcd, hmd, hsb⟩ := hb.open_
  have hpos := fun w' => possible_i (ps.length : Int) w'
  by_cases hq : 4 ≤ ps.length ∧ ps.length ≤ 16
  · rw [decide_eq_true (by omega)] at hpos
    refine calls_wc (args := [.slice A ps.length c, .slice B bs.length d]) [4, 5] [] Try.func20 rfl Try.ntmps20 rfl rfl rfl rfl (H.refl w) ?_
    (refine WC.seq ?_; intro K hK)
    refine WC.region rfl ?_
    refine WL.want rfl (WL1.give rfl (g_assign rfl (.mk (v := .slice _ _ _) rfl rfl)) ?_)
    refine WL.want rfl (WL1.give rfl (g_assign rfl (.mk (v := .int _ _) rfl rfl)) ?_)
    refine WL.nil ?_
    (refine hK _ _ ?_; clear hK)
    (refine WC.seq ?_; intro K hK)
    refine WC.region rfl ?_
    refine WL.want rfl (WL1.give rfl (g_move rfl (.mk (v := .slice _ _ _) rfl rfl)) ?_)
    refine WL.want rfl (WL1.give rfl (g_len rfl (.mk rfl rfl) rfl) ?_)
    refine WL.want rfl (WL1.give rfl (g_assign rfl (.mk (v := .int _ _) rfl rfl)) ?_)
    refine WL.nil ?_
    (refine hK _ _ ?_; clear hK)
    (refine WC.seq ?_; intro K hK)
    (refine WC.seq ?_; intro K hK)
    refine WC.region rfl ?_
    refine WL.want rfl (WL1.give rfl (g_move rfl (.mk (v := .int _ _) rfl rfl)) ?_)
    refine WL.want rfl (WL1.callP rfl rfl rfl (.cons (.mk (v := .int _ _) rfl rfl) .nil) (fun w hw => hpos w) ?_)
    refine WL.want rfl (WL1.give rfl (g_notT rfl (.mk rfl rfl)) ?_)
    refine WL.want rfl (WL1.give rfl (g_move rfl (.mk (v := .bool _) rfl rfl)) ?_)
    refine WL.wantG rfl rfl rfl rfl (WL1.give rfl (g_move rfl (.mk (v := .slice _ _ _) rfl rfl)) ?_)
    refine WL.wantG rfl rfl rfl rfl (WL1.give rfl (g_len rfl (.mk rfl rfl) rfl) ?_)
    refine WL.wantG rfl rfl rfl rfl (WL1.give rfl (g_move rfl (.mk (v := .int _ _) rfl rfl)) ?_)
    refine WL.wantG rfl rfl rfl rfl (WL1.give rfl (g_ne rfl (.mk rfl rfl) (.mk rfl rfl) (decide_eq_true (by omega))) ?_)
    refine WL.want rfl (WL1.give rfl (g_pickF rfl (.mk rfl rfl) (.mk (v := .bool _) rfl rfl)) ?_)
    refine WL.nil ?_
    (refine hK _ _ ?_; clear hK)
    refine WC.cond_true (.mk rfl rfl) ?_
    (refine WC.seq ?_; intro K hK)
    refine WC.region rfl ?_
    refine WL.want rfl (WL1.give rfl (g_assign rfl (.mk (v := .slice _ _ _) rfl rfl)) ?_)
    refine WL.want rfl (WL1.give rfl (g_assign rfl (.mk (v := .int _ _) rfl rfl)) ?_)
    refine WL.nil ?_
    (refine hK _ _ ?_; clear hK)
    refine WC.ret ?_
    exact fun w' hw' => ⟨rfl, hw'.1⟩
  · rw [decide_eq_false (by omega)] at hpos
    refine calls_wc (args := [.slice A ps.length c, .slice B bs.length d]) [4, 5] [] Try.func20 rfl Try.ntmps20 rfl rfl rfl rfl (H.refl w) ?_
    (refine WC.seq ?_; intro K hK)
    refine WC.region rfl ?_
    refine WL.want rfl (WL1.give rfl (g_assign rfl (.mk (v := .slice _ _ _) rfl rfl)) ?_)
    refine WL.want rfl (WL1.give rfl (g_assign rfl (.mk (v := .int _ _) rfl rfl)) ?_)
    refine WL.nil ?_
    (refine hK _ _ ?_; clear hK)
    (refine WC.seq ?_; intro K hK)
    refine WC.region rfl ?_
    refine WL.want rfl (WL1.give rfl (g_move rfl (.mk (v := .slice _ _ _) rfl rfl)) ?_)
    refine WL.want rfl (WL1.give rfl (g_len rfl (.mk rfl rfl) rfl) ?_)
    refine WL.want rfl (WL1.give rfl (g_assign rfl (.mk (v := .int _ _) rfl rfl)) ?_)
    refine WL.nil ?_
    (refine hK _ _ ?_; clear hK)
    (refine WC.seq ?_; intro K hK)
    (refine WC.seq ?_; intro K hK)
    refine WC.region rfl ?_
    refine WL.want rfl (WL1.give rfl (g_move rfl (.mk (v := .int _ _) rfl rfl)) ?_)
    refine WL.want rfl (WL1.callP rfl rfl rfl (.cons (.mk (v := .int _ _) rfl rfl) .nil) (fun w hw => hpos w) ?_)
    refine WL.want rfl (WL1.give rfl (g_notF rfl (.mk rfl rfl)) ?_)
    refine WL.want rfl (WL1.give rfl (g_move rfl (.mk (v := .bool _) rfl rfl)) ?_)
    refine WL.skipG rfl rfl rfl rfl rfl rfl ?_
    refine WL.skipG rfl rfl rfl rfl rfl rfl ?_
    refine WL.skipG rfl rfl rfl rfl rfl rfl ?_
    refine WL.skipG rfl rfl rfl rfl rfl rfl ?_
    refine WL.want rfl (WL1.give rfl (g_pickT rfl (.mk rfl rfl) (.mk (v := .bool _) rfl rfl)) ?_)
    refine WL.nil ?_
    (refine hK _ _ ?_; clear hK)
    refine WC.cond_true (.mk rfl rfl) ?_
    (refine WC.seq ?_; intro K hK)
    refine WC.region rfl ?_
    refine WL.want rfl (WL1.give rfl (g_assign rfl (.mk (v := .slice _ _ _) rfl rfl)) ?_)
    refine WL.want rfl (WL1.give rfl (g_assign rfl (.mk (v := .int _ _) rfl rfl)) ?_)
    refine WL.nil ?_
    (refine hK _ _ ?_; clear hK)
    refine WC.ret ?_
    exact fun w' hw' => ⟨rfl, hw'.1⟩
end Go.Proofs.Ytlcddlipcdimeaa
namespace Go.Proofs.Ytlcddlipcdimeaa
open Go.RowKit
attribute [local irreducible] Calls
set_option maxRecDepth 20000 in
set_option maxHeartbeats 1000000 in
theorem count_e (vb : Value) (bs : List Bool) (w : World) (hb : Sl w 1 vb bs.length (bls bs)) (hl : bs.length ≤ 1000) : Calls Try.prog 19 #[vb] w fun e w' => e = .returned (iv (cnt bs bs.length)) ∧ Below w.heap.size w w' := by
  obtain ⟨B, d, rfl, hcd, hmd, hsb⟩ := hb.open_
  refine calls_wc (args := [.slice B bs.length d]) [2] [] Try.func19 rfl Try.ntmps19 rfl rfl rfl rfl (H.refl w) ?_
  (refine WC.seq ?_; intro K hK)
  refine WC.region rfl ?_
  refine WL.want rfl (WL1.give rfl (g_assign rfl (.mk (v := .int _ _) rfl rfl)) ?_)
  refine WL.nil ?_
  (refine hK _ _ ?_; clear hK)
  (refine WC.seq ?_; intro K hK)
  refine WC.region rfl ?_
  refine WL.want rfl (WL1.give rfl (g_assign rfl (.mk (v := .int _ _) rfl rfl)) ?_)
  refine WL.nil ?_
  (refine hK _ _ ?_; clear hK)
  (refine WC.seq ?_; intro K hK)
  (refine WC.seq ?_; intro K hK)
  refine WC.region rfl ?_
  refine WL.want rfl (WL1.give rfl (g_assign rfl (.mk (v := .int _ _) rfl rfl)) ?_)
  refine WL.nil ?_
  (refine hK _ _ ?_; clear hK)
  refine WC.block ?_
  refine WC.loopF (fun i : Nat => [(4, iv i), (3, iv (cnt bs i)), (0, .slice B bs.length d)]) (fun _ => []) (fun i => i ≤ bs.length) (fun i => bs.length - i) 0 (by repeat (first | exact trivial | refine ⟨rfl, ?_⟩)) (Imp.nil _) (by omega) ?_
  intro i U hi
  have hcl := cnt_le (bs := bs) i
  by_cases hlt : i < bs.length
  · have hgv := bls_get (l := bs) (k := i) hlt
    have hst : cnt bs (i + 1) = cnt bs i + if nth bs i then 1 else 0 := rfl
    cases hbi : nth bs i with
    | true =>
      rw [hbi] at hgv hst
      replace hst : cnt bs (i + 1) = cnt bs i + 1 := hst
      (refine WC.seq ?_; intro K hK)
      (refine WC.seq ?_; intro K hK)
      refine WC.region rfl ?_
      refine WL.want rfl (WL1.give rfl (g_move rfl (.mk (v := .int _ _) rfl rfl)) ?_)
      refine WL.want rfl (WL1.give rfl (g_move rfl (.mk (v := .slice _ _ _) rfl rfl)) ?_)
      refine WL.want rfl (WL1.give rfl (g_len rfl (.mk rfl rfl) rfl) ?_)
      refine WL.want rfl (WL1.give rfl (g_lt rfl (.mk rfl rfl) (.mk rfl rfl) (decide_eq_true (by omega))) ?_)
      refine WL.nil ?_
      (refine hK _ _ ?_; clear hK)
      refine WC.cond_true (.mk rfl rfl) ?_
      refine WC.skip ?_
      (refine hK _ _ ?_; clear hK)
      (refine WC.seq ?_; intro K hK)
      refine WC.block ?_
      (refine WC.seq ?_; intro K hK)
      refine WC.region rfl ?_
      refine WL.want rfl (WL1.give rfl (g_move rfl (.mk (v := .slice _ _ _) rfl rfl)) ?_)
      refine WL.want rfl (WL1.give rfl (g_move rfl (.mk (v := .int _ _) rfl rfl)) ?_)
      refine WL.want rfl (WL1.give rfl (g_indexAddr (sz := 1) rfl (.mk rfl rfl) (.mk rfl rfl) rfl rfl rfl (by omega) (fun _ _ => sl_some hsb (by omega))) ?_)
      refine WL.want rfl (WL1.give rfl (g_load rfl (.mk rfl rfl) rfl (rd_sl hsb hgv)) ?_)
      refine WL.nil ?_
      (refine hK _ _ ?_; clear hK)
      refine WC.cond_true (.mk rfl rfl) ?_
      refine WC.region rfl ?_
      refine WL.want rfl (WL1.give rfl (g_move rfl (.mk (v := .int _ _) rfl rfl)) ?_)
      refine WL.want rfl (WL1.give rfl (g_add rfl (.mk rfl rfl) (.mk rfl rfl) (IntWalk.i64_in _ (by omega))) ?_)
      refine WL.want rfl (WL1.give rfl (g_assign rfl (.mk (v := .int _ _) rfl rfl)) ?_)
      refine WL.nil ?_
      (refine hK _ _ ?_; clear hK)
      refine WC.region rfl ?_
      refine WL.want rfl (WL1.give rfl (g_move rfl (.mk (v := .int _ _) rfl rfl)) ?_)
      refine WL.want rfl (WL1.give rfl (g_add rfl (.mk rfl rfl) (.mk rfl rfl) (IntWalk.i64_in _ (by omega))) ?_)
      refine WL.want rfl (WL1.give rfl (g_assign rfl (.mk (v := .int _ _) rfl rfl)) ?_)
      refine WL.nil ?_
      exact ⟨i + 1, by rw [hst]; exact (by repeat (first | exact trivial | refine ⟨rfl, ?_⟩)), .refl _, by omega, by omega⟩
    | false =>
      rw [hbi] at hgv hst
      replace hst : cnt bs (i + 1) = cnt bs i := hst
      (refine WC.seq ?_; intro K hK)
      (refine WC.seq ?_; intro K hK)
      refine WC.region rfl ?_
      refine WL.want rfl (WL1.give rfl (g_move rfl (.mk (v := .int _ _) rfl rfl)) ?_)
      refine WL.want rfl (WL1.give rfl (g_move rfl (.mk (v := .slice _ _ _) rfl rfl)) ?_)
      refine WL.want rfl (WL1.give rfl (g_len rfl (.mk rfl rfl) rfl) ?_)
      refine WL.want rfl (WL1.give rfl (g_lt rfl (.mk rfl rfl) (.mk rfl rfl) (decide_eq_true (by omega))) ?_)
      refine WL.nil ?_
      (refine hK _ _ ?_; clear hK)
      refine WC.cond_true (.mk rfl rfl) ?_
      refine WC.skip ?_
      (refine hK _ _ ?_; clear hK)
      (refine WC.seq ?_; intro K hK)
      refine WC.block ?_
      (refine WC.seq ?_; intro K hK)
      refine WC.region rfl ?_
      refine WL.want rfl (WL1.give rfl (g_move rfl (.mk (v := .slice _ _ _) rfl rfl)) ?_)
      refine WL.want rfl (WL1.give rfl (g_move rfl (.mk (v := .int _ _) rfl rfl)) ?_)
      refine WL.want rfl (WL1.give rfl (g_indexAddr (sz := 1) rfl (.mk rfl rfl) (.mk rfl rfl) rfl rfl rfl (by omega) (fun _ _ => sl_some hsb (by omega))) ?_)
      refine WL.want rfl (WL1.give rfl (g_load rfl (.mk rfl rfl) rfl (rd_sl hsb hgv)) ?_)
      refine WL.nil ?_
      (refine hK _ _ ?_; clear hK)
      refine WC.cond_false (.mk rfl rfl) ?_
      refine WC.skip ?_
      (refine hK _ _ ?_; clear hK)
      refine WC.region rfl ?_
      refine WL.want rfl (WL1.give rfl (g_move rfl (.mk (v := .int _ _) rfl rfl)) ?_)
      refine WL.want rfl (WL1.give rfl (g_add rfl (.mk rfl rfl) (.mk rfl rfl) (IntWalk.i64_in _ (by omega))) ?_)
      refine WL.want rfl (WL1.give rfl (g_assign rfl (.mk (v := .int _ _) rfl rfl)) ?_)
      refine WL.nil ?_
      exact ⟨i + 1, by rw [hst]; exact (by repeat (first | exact trivial | refine ⟨rfl, ?_⟩)), .refl _, by omega, by omega⟩
  · obtain rfl : i = bs.length := by omega
    (refine WC.seq ?_; intro K hK)
    (refine WC.seq ?_; intro K hK)
    refine WC.region rfl ?_
    refine WL.want rfl (WL1.give rfl (g_move rfl (.mk (v := .int _ _) rfl rfl)) ?_)
    refine WL.want rfl (WL1.give rfl (g_move rfl (.mk (v := .slice _ _ _) rfl rfl)) ?_)
    refine WL.want rfl (WL1.give rfl (g_len rfl (.mk rfl rfl) rfl) ?_)
    refine WL.want rfl (WL1.give rfl (g_lt rfl (.mk rfl rfl) (.mk rfl rfl) (decide_eq_false (by omega))) ?_)
    refine WL.nil ?_
    (refine hK _ _ ?_; clear hK)
    refine WC.cond_false (.mk rfl rfl) ?_
    refine WC.exit ?_
    (clear hK; refine hK _ _ ?_; clear hK)
    (refine WC.seq ?_; intro K hK)
    refine WC.region rfl ?_
    refine WL.want rfl (WL1.give rfl (g_move rfl (.mk (v := .int _ _) rfl rfl)) ?_)
    refine WL.want rfl (WL1.give rfl (g_assign rfl (.mk (v := .int _ _) rfl rfl)) ?_)
    refine WL.nil ?_
    (refine hK _ _ ?_; clear hK)
    refine WC.ret ?_
    exact fun w' hw' => ⟨rfl, hw'.1⟩
theorem elBo : Elem Try.prog 41 4 (.bool false) 1 1 := ⟨rfl, rfl, rfl, by omega⟩
/-- The marks of the first i numbers. -/
def mksP (m : Nat) (l : List G) (i : Nat) : List Bool := (List.range m).map fun q => (List.range i).any fun j => decide ((nth l j).val < 240 ∧ (nth l j).val % m = q)
theorem mksP_len (m : Nat) (l : List G) (i : Nat) : (mksP m l i).length = m := by simp [mksP]
theorem mksP_nth {m : Nat} (l : List G) (i : Nat) {q : Nat} (h : q < m) : nth (mksP m l i) q = (List.range i).any fun j => decide ((nth l j).val < 240 ∧ (nth l j).val % m = q) := nth_range _ h
theorem mksP_zero (m : Nat) (l : List G) : List.replicate m false = mksP m l 0 := by
  refine list_ext_nth (by simp [mksP]) fun k hk => ?_
  have hk' : k < m := by simpa using hk
  rw [mksP_nth _ _ hk', nth_eq hk]; simp
theorem any_succ (p : Nat → Bool) (i : Nat) : (List.range (i + 1)).any p = ((List.range i).any p || p i) := by rw [List.range_succ, List.any_append]; simp
theorem mksP_set {m : Nat} {l : List G} {i : Nat} (h0 : 0 < m) (h : (nth l i).val < 240) : (mksP m l i).set ((nth l i).val % m) true = mksP m l (i + 1) :=
  list_ext_nth (by rw [List.length_set, mksP_len, mksP_len]) fun q hq => by
    have hq3 : q < m := by rw [List.length_set, mksP_len] at hq; exact hq
    rw [nth_set_eq (by rw [mksP_len]; exact Nat.mod_lt _ h0), mksP_nth _ _ hq3, mksP_nth _ _ hq3, any_succ]
    by_cases e : q = (nth l i).val % m
    · rw [if_pos e, decide_eq_true ⟨h, e.symm⟩, Bool.or_true]
    · rw [if_neg e, decide_eq_false fun q => e q.2.symm, Bool.or_false]
theorem mksP_same {m : Nat} {l : List G} {i : Nat} (h : ¬ (nth l i).val < 240) : mksP m l i = mksP m l (i + 1) := List.map_congr_left fun q _ => by
  rw [any_succ, decide_eq_false fun q => h q.1, Bool.or_false]
theorem bls_set (l : List Bool) (k : Nat) (x : Bool) : (bls l).set k (.bool x) = bls (l.set k x) := by unfold bls; rw [List.map_set]
set_option maxRecDepth 20000 in
set_option maxHeartbeats 1000000 in
theorem marks_n (m : Nat) (l : List G) (w : World) (hl : l.length = 3) (h1 : 1 ≤ m) (h2 : m ≤ 100) : Calls Try.prog 18 #[iv m, .agg (bvs l).toArray] w fun e w' => ∃ v' M, e = .returned v' ∧ H w M w' ∧ ∃ b, v' = .slice (some ⟨b, 0, none⟩) m m ∧ M = [vec (some ⟨b, 0, none⟩) m m 4 1 (bls (mksP m l 3))] := by
  have hmd : (madeCells (Value.bool false).cells (m * 1)).toList = bls (mksP m l 0) := by
    rw [show (Value.bool false).cells = #[.bool false] from rfl, made_one, ← mksP_zero]; simp [bls]
  refine calls_wc (args := [iv m, .agg (bvs l).toArray]) [4] [] Try.func18 rfl Try.ntmps18 rfl rfl rfl rfl (H.refl w) ?_
  (refine WC.seq ?_; intro K hK)
  refine WC.region rfl ?_
  refine WL.want rfl (WL1.box rfl rfl (.mk (v := .agg _) rfl rfl) rfl (fun b3 => ?_))
  refine WL.want rfl (WL1.give rfl (g_assign rfl (.mk (v := .slice _ _ _) rfl rfl)) ?_)
  refine WL.nil ?_
  (refine hK _ _ ?_; clear hK)
  (refine WC.seq ?_; intro K hK)
  refine WC.region rfl ?_
  refine WL.want rfl (WL1.give rfl (g_move rfl (.mk (v := .int _ _) rfl rfl)) ?_)
  refine WL.want rfl (WL1.make elBo rfl rfl (.mk rfl rfl) (.mk rfl rfl) rfl rfl (by omega) (by unfold maxLen; omega) (fun b8 => ?_))
  refine WL.want rfl (WL1.give rfl (g_assign rfl (.mk (v := .slice _ _ _) rfl rfl)) ?_)
  refine WL.nil ?_
  (refine hK _ _ ?_; clear hK)
  (refine WC.seq ?_; intro K hK)
  (refine WC.seq ?_; intro K hK)
  refine WC.region rfl ?_
  refine WL.want rfl (WL1.give rfl (g_assign rfl (.mk (v := .int _ _) rfl rfl)) ?_)
  refine WL.nil ?_
  (refine hK _ _ ?_; clear hK)
  refine WC.block ?_
  rw [hmd]
  refine WC.loopF (fun i : Nat => [(6, iv i), (0, iv m), (5, .slice (some ⟨b8, 0, none⟩) m m), (3, cellPtr (some ⟨b3, 0, none⟩) 0)]) (fun i => [vec (some ⟨b8, 0, none⟩) m m 4 1 (bls (mksP m l i)), pt b3 39 (bvs l)]) (fun i => i ≤ 3) (fun i => 3 - i) 0 (by repeat (first | exact trivial | refine ⟨rfl, ?_⟩)) (.refl _) (by omega) ?_
  intro i U hi
  have hbl : (bls (mksP m l i)).length = m := by rw [bls_len, mksP_len]
  by_cases hlt : i < 3
  · have hgv : (bvs l)[0 + (0 + i * 1)]? = some (bv (nth l i)) := by rw [show 0 + (0 + i * 1) = i from by omega]; exact bvs_get (by omega)
    by_cases h240 : (nth l i).val < 240
    · have hrem : ((nth l i).val : Int).tmod (m : Int) = (((nth l i).val % m : Nat) : Int) := by
        rw [Int.tmod_eq_emod_of_nonneg (by omega), Int.natCast_emod]
      have hml : (nth l i).val % m < m := Nat.mod_lt _ (by omega)
      (refine WC.seq ?_; intro K hK)
      (refine WC.seq ?_; intro K hK)
      refine WC.region rfl ?_
      refine WL.want rfl (WL1.give rfl (g_move rfl (.mk (v := .int _ _) rfl rfl)) ?_)
      refine WL.want rfl (WL1.give rfl (g_lt rfl (.mk rfl rfl) (.mk rfl rfl) (decide_eq_true (by omega))) ?_)
      refine WL.nil ?_
      (refine hK _ _ ?_; clear hK)
      refine WC.cond_true (.mk rfl rfl) ?_
      refine WC.skip ?_
      (refine hK _ _ ?_; clear hK)
      (refine WC.seq ?_; intro K hK)
      refine WC.block ?_
      (refine WC.seq ?_; intro K hK)
      refine WC.region rfl ?_
      refine WL.want rfl (WL1.give rfl (g_move rfl (.mk (v := .int _ _) rfl rfl)) ?_)
      refine WL.want rfl (WL1.give rfl (g_indexAddrA (sz := 1) rfl (.mk rfl rfl) (.mk rfl rfl) rfl rfl rfl (by omega) (fun _ _ => rfl)) ?_)
      refine WL.want rfl (WL1.give rfl (g_load rfl (.mk rfl rfl) rfl (rd_pt (by repeat (first | exact .head _ | apply List.Mem.tail)) hgv)) ?_)
      refine WL.want rfl (WL1.give rfl (g_lt rfl (.mk rfl rfl) (.mk rfl rfl) (decide_eq_true (by omega))) ?_)
      refine WL.nil ?_
      (refine hK _ _ ?_; clear hK)
      refine WC.cond_true (.mk rfl rfl) ?_
      refine WC.region rfl ?_
      refine WL.want rfl (WL1.give rfl (g_move rfl (.mk (v := .slice _ _ _) rfl rfl)) ?_)
      refine WL.want rfl (WL1.give rfl (g_move rfl (.mk (v := .int _ _) rfl rfl)) ?_)
      refine WL.want rfl (WL1.give rfl (g_indexAddrA (sz := 1) rfl (.mk rfl rfl) (.mk rfl rfl) rfl rfl rfl (by omega) (fun _ _ => rfl)) ?_)
      refine WL.want rfl (WL1.give rfl (g_load rfl (.mk rfl rfl) rfl (rd_pt (by repeat (first | exact .head _ | apply List.Mem.tail)) hgv)) ?_)
      refine WL.want rfl (WL1.give rfl (g_conv rfl rfl rfl (.mk rfl rfl) (IntWalk.i64_in _ (by omega))) ?_)
      refine WL.want rfl (WL1.give rfl (g_move rfl (.mk (v := .int _ _) rfl rfl)) ?_)
      refine WL.want rfl (WL1.give rfl (g_rem rfl (.mk rfl rfl) (.mk rfl rfl) (by omega) hrem) ?_)
      refine WL.want rfl (WL1.give rfl (g_indexAddr (sz := 1) rfl (.mk rfl rfl) (.mk rfl rfl) rfl rfl rfl (by omega) (fun _ _ => rfl)) ?_)
      refine WL.want rfl (WL1.storeV1 rfl rfl (.mk rfl rfl) (.mk (v := .bool _) rfl rfl) rfl rfl (by first | omega | (simp; done) | (simp; omega)) (.head) ?_)
      refine WL.nil ?_
      (refine hK _ _ ?_; clear hK)
      refine WC.region rfl ?_
      refine WL.want rfl (WL1.give rfl (g_move rfl (.mk (v := .int _ _) rfl rfl)) ?_)
      refine WL.want rfl (WL1.give rfl (g_add rfl (.mk rfl rfl) (.mk rfl rfl) (IntWalk.i64_in _ (by omega))) ?_)
      refine WL.want rfl (WL1.give rfl (g_assign rfl (.mk (v := .int _ _) rfl rfl)) ?_)
      refine WL.nil ?_
      exact ⟨i + 1, (by repeat (first | exact trivial | refine ⟨rfl, ?_⟩)), by rw [Nat.mul_one, bls_set, mksP_set (by omega) h240]; exact .refl _, by omega, by omega⟩
    · (refine WC.seq ?_; intro K hK)
      (refine WC.seq ?_; intro K hK)
      refine WC.region rfl ?_
      refine WL.want rfl (WL1.give rfl (g_move rfl (.mk (v := .int _ _) rfl rfl)) ?_)
      refine WL.want rfl (WL1.give rfl (g_lt rfl (.mk rfl rfl) (.mk rfl rfl) (decide_eq_true (by omega))) ?_)
      refine WL.nil ?_
      (refine hK _ _ ?_; clear hK)
      refine WC.cond_true (.mk rfl rfl) ?_
      refine WC.skip ?_
      (refine hK _ _ ?_; clear hK)
      (refine WC.seq ?_; intro K hK)
      refine WC.block ?_
      (refine WC.seq ?_; intro K hK)
      refine WC.region rfl ?_
      refine WL.want rfl (WL1.give rfl (g_move rfl (.mk (v := .int _ _) rfl rfl)) ?_)
      refine WL.want rfl (WL1.give rfl (g_indexAddrA (sz := 1) rfl (.mk rfl rfl) (.mk rfl rfl) rfl rfl rfl (by omega) (fun _ _ => rfl)) ?_)
      refine WL.want rfl (WL1.give rfl (g_load rfl (.mk rfl rfl) rfl (rd_pt (by repeat (first | exact .head _ | apply List.Mem.tail)) hgv)) ?_)
      refine WL.want rfl (WL1.give rfl (g_lt rfl (.mk rfl rfl) (.mk rfl rfl) (decide_eq_false (by omega))) ?_)
      refine WL.nil ?_
      (refine hK _ _ ?_; clear hK)
      refine WC.cond_false (.mk rfl rfl) ?_
      refine WC.skip ?_
      (refine hK _ _ ?_; clear hK)
      refine WC.region rfl ?_
      refine WL.want rfl (WL1.give rfl (g_move rfl (.mk (v := .int _ _) rfl rfl)) ?_)
      refine WL.want rfl (WL1.give rfl (g_add rfl (.mk rfl rfl) (.mk rfl rfl) (IntWalk.i64_in _ (by omega))) ?_)
      refine WL.want rfl (WL1.give rfl (g_assign rfl (.mk (v := .int _ _) rfl rfl)) ?_)
      refine WL.nil ?_
      exact ⟨i + 1, (by repeat (first | exact trivial | refine ⟨rfl, ?_⟩)), by rw [← mksP_same h240]; exact .refl _, by omega, by omega⟩
  · obtain rfl : i = 3 := by omega
    (refine WC.seq ?_; intro K hK)
    (refine WC.seq ?_; intro K hK)
    refine WC.region rfl ?_
    refine WL.want rfl (WL1.give rfl (g_move rfl (.mk (v := .int _ _) rfl rfl)) ?_)
    refine WL.want rfl (WL1.give rfl (g_lt rfl (.mk rfl rfl) (.mk rfl rfl) (decide_eq_false (by omega))) ?_)
    refine WL.nil ?_
    (refine hK _ _ ?_; clear hK)
    refine WC.cond_false (.mk rfl rfl) ?_
    refine WC.exit ?_
    (clear hK; refine hK _ _ ?_; clear hK)
    (refine WC.seq ?_; intro K hK)
    refine WC.region rfl ?_
    refine WL.want rfl (WL1.give rfl (g_move rfl (.mk (v := .slice _ _ _) rfl rfl)) ?_)
    refine WL.want rfl (WL1.give rfl (g_assign rfl (.mk (v := .slice _ _ _) rfl rfl)) ?_)
    refine WL.nil ?_
    (refine hK _ _ ?_; clear hK)
    refine WC.ret ?_
    exact fun w' hw' => ⟨_, _, rfl, hw'.sub (.cons_cons _ (.cons _ .slnil)), b8, rfl, rfl⟩
set_option maxRecDepth 20000 in
set_option maxHeartbeats 1000000 in
theorem lgroup_n (dl : List Blk) (g : G) (w : World) (hl : dl.length = 13) : Calls Try.prog 17 #[.agg (kvs dl).toArray, bv g] w fun e w' => ∃ v' M, e = .returned v' ∧ H w M w' ∧ ∃ A c, v' = .slice A (1 + g.val % 13 + 3) c ∧ M = [vec A (1 + g.val % 13 + 3) c 33 8 (kvs (dl.take (1 + g.val % 13) ++ enc (dl.take (1 + g.val % 13))))] := by
  obtain ⟨n, hn⟩ : ∃ n, n = 1 + g.val % 13 := ⟨_, rfl⟩
  have hmod : g.val % 13 < 13 := Nat.mod_lt _ (by omega)
  have hle : n ≤ 13 := by omega
  have hgl := g.lt
  have hrem : (g.val : Int).tmod 13 = ((g.val % 13 : Nat) : Int) := by rw [Int.tmod_eq_emod_of_nonneg (by omega)]; omega
  have hadd : IntKind.i64.wrap (1 + ((g.val % 13 : Nat) : Int)) = (n : Int) := by rw [IntWalk.i64_in _ (by omega)]; omega
  have htl : (dl.take n).length = n := by rw [List.length_take]; omega
  rw [← hn]
  have hgr : ∀ (v : Value) (w' : World), Sl w' 8 v n (kvs (dl.take n)) → Calls Try.prog 25 #[v] w' fun e w2 => ∃ v' M, e = .returned v' ∧ H w' M w2 ∧ ∃ A c, v' = .slice A (n + 3) c ∧ M = [vec A (n + 3) c 33 8 (kvs (dl.take n ++ enc (dl.take n)))] := fun v w' h => by
    have := group_n v (dl.take n) w' (by rw [htl]; exact h) (by omega)
    rwa [htl] at this
  have hkl : (kvs dl).length = 13 * 8 := by rw [kvs_len, hl]
  have hdt : ((kvs dl).drop (0 + 0 * 8)).take ((n - 0) * 8) = kvs (dl.take n) := by rw [Nat.zero_mul, List.drop_zero, Nat.sub_zero, kvs_take]
  refine calls_wc (args := [.agg (kvs dl).toArray, bv g]) [4] [] Try.func17 rfl Try.ntmps17 rfl rfl rfl rfl (H.refl w) ?_
  (refine WC.seq ?_; intro K hK)
  refine WC.region rfl ?_
  refine WL.want rfl (WL1.box rfl rfl (.mk (v := .agg _) rfl rfl) rfl (fun b2 => ?_))
  refine WL.want rfl (WL1.give rfl (g_assign rfl (.mk (v := .slice _ _ _) rfl rfl)) ?_)
  refine WL.nil ?_
  (refine hK _ _ ?_; clear hK)
  (refine WC.seq ?_; intro K hK)
  refine WC.region rfl ?_
  refine WL.want rfl (WL1.give rfl (g_move rfl (.mk (v := .int _ _) rfl rfl)) ?_)
  refine WL.want rfl (WL1.give rfl (g_conv rfl rfl rfl (.mk rfl rfl) (IntWalk.i64_in _ (by omega))) ?_)
  refine WL.want rfl (WL1.give rfl (g_rem rfl (.mk rfl rfl) (.mk rfl rfl) (by omega) hrem) ?_)
  refine WL.want rfl (WL1.give rfl (g_add rfl (.mk rfl rfl) (.mk rfl rfl) hadd) ?_)
  refine WL.want rfl (WL1.give rfl (g_sliceA (sz := 8) (kl := .i64) (p := 0) rfl (.mk rfl rfl) rfl rfl rfl ⟨(.mk rfl rfl), rfl⟩ (by omega) (by omega) (fun _ _ => rfl)) ?_)
  (refine WL.want rfl (WL1.callN rfl rfl rfl (.cons (.mk (v := .slice _ _ _) rfl rfl) .nil) (fun w hw => hgr _ w (Sl.of_ptE hw (by repeat (first | exact .head _ | apply List.Mem.tail)) (Nat.zero_le _) (by omega) (by unfold maxLen; omega) (by omega) (Nat.sub_zero n) hdt)) ?_); rintro _ _ ⟨A, c, rfl, rfl⟩)
  refine WL.want rfl (WL1.give rfl (g_assign rfl (.mk (v := .slice _ _ _) rfl rfl)) ?_)
  refine WL.nil ?_
  (refine hK _ _ ?_; clear hK)
  refine WC.ret ?_
  exact fun w' hw' => ⟨_, _, rfl, hw'.sub (.cons_cons _ (.cons _ .slnil)), A, c, rfl, rfl⟩
set_option maxRecDepth 20000 in
set_option maxHeartbeats 2000000 in
theorem syndromes_n (v : Value) (ps : List Blk) (n : Nat) (w : World) (hv : Sl w 8 v ps.length (kvs ps)) (h1 : 1 ≤ n) (h2 : n ≤ 13) (hpl : ps.length = n + 3) :
    Calls Try.prog 23 #[v] w fun e w' => ∃ v' M, e = .returned v' ∧ H w M w' ∧ ∃ b, v' = .tuple #[.slice (some ⟨b, 0, none⟩) 3 3, iv 0] ∧ M = [vec (some ⟨b, 0, none⟩) 3 3 33 8 (kvs (synL ps))] := by
  obtain ⟨A, c, rfl, hc, hm, hs⟩ := hv.open_
  have hpos : ∀ w', Calls Try.prog 28 #[iv ps.length] w' fun e w2 => e = .returned (.bool true) ∧ Below w'.heap.size w' w2 := fun w' => by
    have := possible_i ps.length w'
    rwa [decide_eq_true (by omega)] at this
  have hn3 : ps.length - 3 = n := by omega
  have hpar : ∀ (v : Value) (w' : World), Sl w' 8 v n (kvs (ps.take n)) → Calls Try.prog 39 #[v] w' fun e w2 => ∃ v' M, e = .returned v' ∧ H w' M w2 ∧ ∃ b, v' = .tuple #[.slice (some ⟨b, 0, none⟩) 3 3, iv 0] ∧ M = [vec (some ⟨b, 0, none⟩) 3 3 33 8 (kvs (synP ps 0))] := fun v w' h => by
    have hl : (ps.take n).length = n := by rw [List.length_take]; omega
    rw [synP_zero, hn3]
    exact encode_n v (ps.take n) w' (by rw [hl]; exact h) (by omega) (by omega)
  have hsub : IntKind.i64.wrap ((ps.length : Int) - 3) = (n : Int) := by rw [IntWalk.i64_in _ (by omega)]; omega
  have htk : ∀ w', Below w.heap.size w w' → Sl w' 8 (.slice (subA A c 0 8) (n - 0) (c - 0)) n (kvs (ps.take n)) := fun w' hb => by
    have := Sl.blks (l := 0) (h := n) (hs.below hb) rfl (by omega) (by omega)
    rwa [List.drop_zero, Nat.sub_zero, List.length_take, Nat.min_eq_left (by omega)] at this
  refine calls_wc (args := [.slice A ps.length c]) [2, 3] [] Try.func23 rfl Try.ntmps23 rfl rfl rfl rfl (H.refl w) ?_
  (refine WC.seq ?_; intro K hK)
  refine WC.region rfl ?_
  refine WL.want rfl (WL1.give rfl (g_assign rfl (.mk (v := .slice _ _ _) rfl rfl)) ?_)
  refine WL.want rfl (WL1.give rfl (g_assign rfl (.mk (v := .int _ _) rfl rfl)) ?_)
  refine WL.nil ?_
  (refine hK _ _ ?_; clear hK)
  (refine WC.seq ?_; intro K hK)
  (refine WC.seq ?_; intro K hK)
  refine WC.region rfl ?_
  refine WL.want rfl (WL1.give rfl (g_move rfl (.mk (v := .slice _ _ _) rfl rfl)) ?_)
  refine WL.want rfl (WL1.give rfl (g_len rfl (.mk rfl rfl) rfl) ?_)
  refine WL.want rfl (WL1.callP rfl rfl rfl (.cons (.mk (v := .int _ _) rfl rfl) .nil) (fun w hw => hpos w) ?_)
  refine WL.want rfl (WL1.give rfl (g_notT rfl (.mk rfl rfl)) ?_)
  refine WL.nil ?_
  (refine hK _ _ ?_; clear hK)
  refine WC.cond_false (.mk rfl rfl) ?_
  refine WC.skip ?_
  (refine hK _ _ ?_; clear hK)
  (refine WC.seq ?_; intro K hK)
  refine WC.region rfl ?_
  refine WL.want rfl (WL1.give rfl (g_move rfl (.mk (v := .slice _ _ _) rfl rfl)) ?_)
  refine WL.want rfl (WL1.give rfl (g_len rfl (.mk rfl rfl) rfl) ?_)
  refine WL.want rfl (WL1.give rfl (g_sub rfl (.mk rfl rfl) (.mk rfl rfl) hsub) ?_)
  refine WL.want rfl (WL1.give rfl (g_assign rfl (.mk (v := .int _ _) rfl rfl)) ?_)
  refine WL.nil ?_
  (refine hK _ _ ?_; clear hK)
  (refine WC.seq ?_; intro K hK)
  refine WC.region rfl ?_
  refine WL.want rfl (WL1.give rfl (g_move rfl (.mk (v := .slice _ _ _) rfl rfl)) ?_)
  refine WL.want rfl (WL1.give rfl (g_move rfl (.mk (v := .int _ _) rfl rfl)) ?_)
  refine WL.want rfl (WL1.give rfl (g_slice (sz := 8) (kl := .i64) (p := 0) rfl (.mk rfl rfl) rfl rfl rfl ⟨(.mk rfl rfl), rfl⟩ (by omega) (by omega)) ?_)
  (refine WL.want rfl (WL1.callN rfl rfl rfl (.cons (.mk (v := .slice _ _ _) rfl rfl) .nil) (fun w hw => hpar _ w (htk w hw.1)) ?_); rintro _ _ ⟨b, rfl, rfl⟩)
  refine WL.want rfl (WL1.give rfl (g_move rfl (.mk (v := .tuple _) rfl rfl)) ?_)
  refine WL.want rfl (WL1.give rfl (g_extract rfl (.mk rfl rfl) rfl) ?_)
  refine WL.want rfl (WL1.give rfl (g_extract rfl (.mk rfl rfl) rfl) ?_)
  refine WL.want rfl (WL1.give rfl (g_assign rfl (.mk (v := .slice _ _ _) rfl rfl)) ?_)
  refine WL.want rfl (WL1.give rfl (g_assign rfl (.mk (v := .int _ _) rfl rfl)) ?_)
  refine WL.nil ?_
  (refine hK _ _ ?_; clear hK)
  (refine WC.seq ?_; intro K hK)
  (refine WC.seq ?_; intro K hK)
  refine WC.region rfl ?_
  refine WL.want rfl (WL1.give rfl (g_move rfl (.mk (v := .slice _ _ _) rfl rfl)) ?_)
  refine WL.want rfl (WL1.give rfl (g_len rfl (.mk rfl rfl) rfl) ?_)
  refine WL.want rfl (WL1.give rfl (g_move rfl (.mk (v := .int _ _) rfl rfl)) ?_)
  refine WL.nil ?_
  (refine hK _ _ ?_; clear hK)
  refine WC.block ?_
  refine WC.loopF (fun j : Nat => [(25, iv j), (24, iv 3), (5, .slice (some ⟨b, 0, none⟩) 3 3), (0, .slice A ps.length c), (4, iv n)]) (fun j => [vec (some ⟨b, 0, none⟩) 3 3 33 8 (kvs (synP ps j))]) (fun j => j ≤ 3) (fun j => 3 - j) 0 (by repeat (first | exact trivial | refine ⟨rfl, ?_⟩)) (.refl _) (by omega) ?_
  intro j U hj
  by_cases hlt : j < 3
  · obtain ⟨f, hf⟩ : ∃ f : Nat → G, f = fun q => (nth (synP ps j) j).at q + (nth ps (n + j)).at q := ⟨_, rfl⟩
    obtain ⟨g, hg⟩ : ∃ g : Nat → G, g = fun q => (nth (synP ps j) j).at q := ⟨_, rfl⟩
    have hpl2 := synP_len ps j
    have hadd : IntKind.i64.wrap ((n : Int) + (j : Int)) = ((n + j : Nat) : Int) := (IntWalk.i64_in _ (by omega)).trans (by omega)
    (refine WC.seq ?_; intro K hK)
    refine WC.region rfl ?_
    refine WL.want rfl (WL1.give rfl (g_lt rfl (.mk rfl rfl) (.mk rfl rfl) (decide_eq_true (by omega))) ?_)
    refine WL.nil ?_
    (refine hK _ _ ?_; clear hK)
    (refine WC.seq ?_; intro K hK)
    refine WC.cond_true (.mk rfl rfl) ?_
    refine WC.skip ?_
    (refine hK _ _ ?_; clear hK)
    (refine WC.seq ?_; intro K hK)
    refine WC.block ?_
    (refine WC.seq ?_; intro K hK)
    refine WC.region rfl ?_
    refine WL.want rfl (WL1.give rfl (g_move rfl (.mk (v := .int _ _) rfl rfl)) ?_)
    refine WL.want rfl (WL1.give rfl (g_assign rfl (.mk (v := .int _ _) rfl rfl)) ?_)
    refine WL.nil ?_
    (refine hK _ _ ?_; clear hK)
    (refine WC.seq ?_; intro K hK)
    refine WC.region rfl ?_
    refine WL.want rfl (WL1.give rfl (g_move rfl (.mk (v := .int _ _) rfl rfl)) ?_)
    refine WL.nil ?_
    (refine hK _ _ ?_; clear hK)
    refine WC.block ?_
    refine WC.loopF (fun k : Nat => [(28, iv k), (7, iv j), (25, iv j), (24, iv 3), (5, .slice (some ⟨b, 0, none⟩) 3 3), (0, .slice A ps.length c), (4, iv n)]) (fun k => [vec (some ⟨b, 0, none⟩) 3 3 33 8 (kvs ((synP ps j).set j (mix k f g)))]) (fun k => k ≤ 8) (fun k => 8 - k) 0 (by repeat (first | exact trivial | refine ⟨rfl, ?_⟩)) (by rw [mix_zero, hg, Blk.of_eta, set_self (by omega) rfl]; exact .refl _) (by omega) ?_
    intro k V hk
    by_cases hlt2 : k < 8
    · have hgk : (kvs ((synP ps j).set j (mix k f g)))[j * 8 + k * 1]? = some (bv (g k)) := by
        rw [blk_get (q := j) (k := k) (by rw [List.length_set]; omega) hlt2 (by omega), nth_set_eq (by omega), if_pos rfl, mix_at _ _ hlt2, if_neg (by omega)]
      have hlx : (kvs ((synP ps j).set j (mix k f g))).length = 3 * 8 := by rw [kvs_len, List.length_set, hpl2]
      have hgo : (kvs ps)[(n + j) * 8 + k * 1]? = some (bv ((nth ps (n + j)).at k)) := blk_get (by omega) hlt2 (by omega)
      (refine WC.seq ?_; intro K hK)
      refine WC.region rfl ?_
      refine WL.want rfl (WL1.give rfl (g_lt rfl (.mk rfl rfl) (.mk rfl rfl) (decide_eq_true (by omega))) ?_)
      refine WL.nil ?_
      (refine hK _ _ ?_; clear hK)
      (refine WC.seq ?_; intro K hK)
      refine WC.cond_true (.mk rfl rfl) ?_
      refine WC.skip ?_
      (refine hK _ _ ?_; clear hK)
      (refine WC.seq ?_; intro K hK)
      refine WC.block ?_
      (refine WC.seq ?_; intro K hK)
      refine WC.region rfl ?_
      refine WL.want rfl (WL1.give rfl (g_move rfl (.mk (v := .int _ _) rfl rfl)) ?_)
      refine WL.want rfl (WL1.give rfl (g_assign rfl (.mk (v := .int _ _) rfl rfl)) ?_)
      refine WL.nil ?_
      (refine hK _ _ ?_; clear hK)
      refine WC.untilL [17] rfl (by kernel_rfl) ?_
      refine WB.takeP 0 rfl (by decide +kernel) (by decide +kernel) (by decide +kernel) (by decide +kernel) rfl rfl (.inr (Imp.sub (by first | ((repeat (first | exact List.nil_sublist _ | exact List.Sublist.refl _ | apply List.Sublist.cons_cons | apply List.Sublist.cons)); done) | fail))) (g_move rfl (.mk (v := .slice _ _ _) rfl rfl)) ?_
      refine WB.takeP 1 rfl (by decide +kernel) (by decide +kernel) (by decide +kernel) (by decide +kernel) rfl rfl (.inr (Imp.sub (by first | ((repeat (first | exact List.nil_sublist _ | exact List.Sublist.refl _ | apply List.Sublist.cons_cons | apply List.Sublist.cons)); done) | fail))) (g_move rfl (.mk (v := .int _ _) rfl rfl)) ?_
      refine WB.takeP 2 rfl (by decide +kernel) (by decide +kernel) (by decide +kernel) (by decide +kernel) rfl rfl (.inr (Imp.sub (by first | ((repeat (first | exact List.nil_sublist _ | exact List.Sublist.refl _ | apply List.Sublist.cons_cons | apply List.Sublist.cons)); done) | fail))) (g_move rfl (.mk (v := .int _ _) rfl rfl)) ?_
      refine WB.takeP 3 rfl (by decide +kernel) (by decide +kernel) (by decide +kernel) (by decide +kernel) rfl rfl (.inr (Imp.sub (by first | ((repeat (first | exact List.nil_sublist _ | exact List.Sublist.refl _ | apply List.Sublist.cons_cons | apply List.Sublist.cons)); done) | fail))) (g_indexAddr (sz := 8) rfl (.mk rfl rfl) (.mk rfl rfl) rfl rfl rfl (by omega) (fun _ _ => rfl)) ?_
      refine WB.takeP 4 rfl (by decide +kernel) (by decide +kernel) (by decide +kernel) (by decide +kernel) rfl rfl (.inr (Imp.sub (by first | ((repeat (first | exact List.nil_sublist _ | exact List.Sublist.refl _ | apply List.Sublist.cons_cons | apply List.Sublist.cons)); done) | fail))) (g_indexAddrA (sz := 1) rfl (.mk rfl rfl) (.mk rfl rfl) rfl rfl rfl (by omega) (fun _ _ => rfl)) ?_
      refine WB.take 5 rfl (by decide +kernel) (by decide +kernel) (by decide +kernel) (by decide +kernel) rfl rfl (Imp.sub (by first | ((repeat (first | exact List.nil_sublist _ | exact List.Sublist.refl _ | apply List.Sublist.cons_cons | apply List.Sublist.cons)); done) | fail)) (g_load rfl (.mk rfl rfl) rfl (rd_vec (.head _) hgk)) ?_
      refine WB.takeP 6 rfl (by decide +kernel) (by decide +kernel) (by decide +kernel) (by decide +kernel) rfl rfl (.inr (Imp.sub (by first | ((repeat (first | exact List.nil_sublist _ | exact List.Sublist.refl _ | apply List.Sublist.cons_cons | apply List.Sublist.cons)); done) | fail))) (g_move rfl (.mk (v := .slice _ _ _) rfl rfl)) ?_
      refine WB.takeP 7 rfl (by decide +kernel) (by decide +kernel) (by decide +kernel) (by decide +kernel) rfl rfl (.inr (Imp.sub (by first | ((repeat (first | exact List.nil_sublist _ | exact List.Sublist.refl _ | apply List.Sublist.cons_cons | apply List.Sublist.cons)); done) | fail))) (g_move rfl (.mk (v := .int _ _) rfl rfl)) ?_
      refine WB.takeP 8 rfl (by decide +kernel) (by decide +kernel) (by decide +kernel) (by decide +kernel) rfl rfl (.inr (Imp.sub (by first | ((repeat (first | exact List.nil_sublist _ | exact List.Sublist.refl _ | apply List.Sublist.cons_cons | apply List.Sublist.cons)); done) | fail))) (g_move rfl (.mk (v := .int _ _) rfl rfl)) ?_
      refine WB.takeP 9 rfl (by decide +kernel) (by decide +kernel) (by decide +kernel) (by decide +kernel) rfl rfl (.inr (Imp.sub (by first | ((repeat (first | exact List.nil_sublist _ | exact List.Sublist.refl _ | apply List.Sublist.cons_cons | apply List.Sublist.cons)); done) | fail))) (g_add rfl (.mk rfl rfl) (.mk rfl rfl) hadd) ?_
      refine WB.takeP 10 rfl (by decide +kernel) (by decide +kernel) (by decide +kernel) (by decide +kernel) rfl rfl (.inr (Imp.sub (by first | ((repeat (first | exact List.nil_sublist _ | exact List.Sublist.refl _ | apply List.Sublist.cons_cons | apply List.Sublist.cons)); done) | fail))) (g_move rfl (.mk (v := .int _ _) rfl rfl)) ?_
      refine WB.takeP 11 rfl (by decide +kernel) (by decide +kernel) (by decide +kernel) (by decide +kernel) rfl rfl (.inr (Imp.sub (by first | ((repeat (first | exact List.nil_sublist _ | exact List.Sublist.refl _ | apply List.Sublist.cons_cons | apply List.Sublist.cons)); done) | fail))) (g_indexAddr (sz := 8) rfl (.mk rfl rfl) (.mk rfl rfl) rfl rfl rfl (by omega) (fun _ _ => sl_some hs (by omega))) ?_
      refine WB.takeP 12 rfl (by decide +kernel) (by decide +kernel) (by decide +kernel) (by decide +kernel) rfl rfl (.inr (Imp.sub (by first | ((repeat (first | exact List.nil_sublist _ | exact List.Sublist.refl _ | apply List.Sublist.cons_cons | apply List.Sublist.cons)); done) | fail))) (g_indexAddrA (sz := 1) rfl (.mk rfl rfl) (.mk rfl rfl) rfl rfl rfl (by omega) (fun _ _ => sl_some hs (by omega))) ?_
      refine WB.take 13 rfl (by decide +kernel) (by decide +kernel) (by decide +kernel) (by decide +kernel) rfl rfl (Imp.sub (by first | ((repeat (first | exact List.nil_sublist _ | exact List.Sublist.refl _ | apply List.Sublist.cons_cons | apply List.Sublist.cons)); done) | fail)) (g_load rfl (.mk rfl rfl) rfl (rd_sl hs hgo)) ?_
      refine WB.takeP 14 rfl (by decide +kernel) (by decide +kernel) (by decide +kernel) (by decide +kernel) rfl rfl (.inr (Imp.sub (by first | ((repeat (first | exact List.nil_sublist _ | exact List.Sublist.refl _ | apply List.Sublist.cons_cons | apply List.Sublist.cons)); done) | fail))) (g_xor (k := .u8) rfl (.mk rfl rfl) (.mk rfl rfl) (xor_u8 _ _)) ?_
      refine WB.takeP 15 rfl (by decide +kernel) (by decide +kernel) (by decide +kernel) (by decide +kernel) rfl rfl (.inr (Imp.sub (by first | ((repeat (first | exact List.nil_sublist _ | exact List.Sublist.refl _ | apply List.Sublist.cons_cons | apply List.Sublist.cons)); done) | fail))) (g_indexAddr (sz := 8) rfl (.mk rfl rfl) (.mk rfl rfl) rfl rfl rfl (by omega) (fun _ _ => rfl)) ?_
      refine WB.takeP 16 rfl (by decide +kernel) (by decide +kernel) (by decide +kernel) (by decide +kernel) rfl rfl (.inr (Imp.sub (by first | ((repeat (first | exact List.nil_sublist _ | exact List.Sublist.refl _ | apply List.Sublist.cons_cons | apply List.Sublist.cons)); done) | fail))) (g_indexAddrA (sz := 1) rfl (.mk rfl rfl) (.mk rfl rfl) rfl rfl rfl (by omega) (fun _ _ => rfl)) ?_
      refine WB.one 17 (by decide +kernel) rfl rfl ?_
      refine WL1.storeV1 rfl rfl (.mk rfl rfl) (.mk (v := .int _ _) rfl rfl) rfl rfl (by first | omega | (simp; done) | (simp; omega)) (.head) ?_
      refine WL.nil ?_
      refine ⟨.inl (by decide +kernel), ?_⟩
      refine WB.done (by decide +kernel) ?_
      (refine hK _ _ ?_; clear hK)
      refine WC.region rfl ?_
      refine WL.want rfl (WL1.give rfl (g_add rfl (.mk rfl rfl) (.mk rfl rfl) (IntWalk.i64_in _ (by omega))) ?_)
      refine WL.want rfl (WL1.give rfl (g_move rfl (.mk (v := .int _ _) rfl rfl)) ?_)
      refine WL.nil ?_
      exact ⟨k + 1, (by repeat (first | exact trivial | refine ⟨rfl, ?_⟩)), Imp.sub (subV (blk_put (by omega) hlt2 (by omega) (by rw [hf, hg])) (.refl _)), by omega, by omega⟩
    · obtain rfl : k = 8 := by omega
      have hfin : (synP ps j).set j (mix 8 f g) = synP ps (j + 1) := by
        rw [← synP_set hlt]
        congr 1
        rw [mix_all, hf, hn3]
        exact Blk.ext_at fun q hq => by rw [Blk.of_at _ hq, Blk.add_at _ _ hq]
      rw [hfin]
      (refine WC.seq ?_; intro K hK)
      refine WC.region rfl ?_
      refine WL.want rfl (WL1.give rfl (g_lt rfl (.mk rfl rfl) (.mk rfl rfl) (decide_eq_false (by omega))) ?_)
      refine WL.nil ?_
      (refine hK _ _ ?_; clear hK)
      (refine WC.seq ?_; intro K hK)
      refine WC.cond_false (.mk rfl rfl) ?_
      refine WC.exit ?_
      (clear hK; refine hK _ _ ?_; clear hK)
      refine WC.region rfl ?_
      refine WL.want rfl (WL1.give rfl (g_add rfl (.mk rfl rfl) (.mk rfl rfl) (IntWalk.i64_in _ (by omega))) ?_)
      refine WL.want rfl (WL1.give rfl (g_move rfl (.mk (v := .int _ _) rfl rfl)) ?_)
      refine WL.nil ?_
      exact ⟨j + 1, (by repeat (first | exact trivial | refine ⟨rfl, ?_⟩)), .refl _, by omega, by omega⟩
  · obtain rfl : j = 3 := by omega
    (refine WC.seq ?_; intro K hK)
    refine WC.region rfl ?_
    refine WL.want rfl (WL1.give rfl (g_lt rfl (.mk rfl rfl) (.mk rfl rfl) (decide_eq_false (by omega))) ?_)
    refine WL.nil ?_
    (refine hK _ _ ?_; clear hK)
    (refine WC.seq ?_; intro K hK)
    refine WC.cond_false (.mk rfl rfl) ?_
    refine WC.exit ?_
    (clear hK; refine hK _ _ ?_; clear hK)
    (refine WC.seq ?_; intro K hK)
    refine WC.region rfl ?_
    refine WL.want rfl (WL1.give rfl (g_move rfl (.mk (v := .slice _ _ _) rfl rfl)) ?_)
    refine WL.want rfl (WL1.give rfl (g_assign rfl (.mk (v := .slice _ _ _) rfl rfl)) ?_)
    refine WL.want rfl (WL1.give rfl (g_assign rfl (.mk (v := .int _ _) rfl rfl)) ?_)
    refine WL.nil ?_
    (refine hK _ _ ?_; clear hK)
    refine WC.ret ?_
    exact fun w' hw' => ⟨_, _, rfl, hw', b, rfl, rfl⟩
set_option maxRecDepth 20000 in
set_option maxHeartbeats 1000000 in
theorem syndromes_bad (v : Value) (ps : List Blk) (w : World) (hv : Sl w 8 v ps.length (kvs ps)) (h : ¬ (4 ≤ ps.length ∧ ps.length ≤ 16)) :
    Calls Try.prog 23 #[v] w fun e w' => e = .returned (.tuple #[.slice none 0 0, iv 1]) ∧ Below w.heap.size w w' := by
  obtain ⟨A, c, rfl, hc, hm, hs⟩ := hv.open_
  have hpos := fun w' => possible_i (ps.length : Int) w'
  rw [decide_eq_false (by omega)] at hpos
  refine calls_wc (args := [.slice A ps.length c]) [2, 3] [] Try.func23 rfl Try.ntmps23 rfl rfl rfl rfl (H.refl w) ?_
  (refine WC.seq ?_; intro K hK)
  refine WC.region rfl ?_
  refine WL.want rfl (WL1.give rfl (g_assign rfl (.mk (v := .slice _ _ _) rfl rfl)) ?_)
  refine WL.want rfl (WL1.give rfl (g_assign rfl (.mk (v := .int _ _) rfl rfl)) ?_)
  refine WL.nil ?_
  (refine hK _ _ ?_; clear hK)
  (refine WC.seq ?_; intro K hK)
  (refine WC.seq ?_; intro K hK)
  refine WC.region rfl ?_
  refine WL.want rfl (WL1.give rfl (g_move rfl (.mk (v := .slice _ _ _) rfl rfl)) ?_)
  refine WL.want rfl (WL1.give rfl (g_len rfl (.mk rfl rfl) rfl) ?_)
  refine WL.want rfl (WL1.callP rfl rfl rfl (.cons (.mk (v := .int _ _) rfl rfl) .nil) (fun w hw => hpos w) ?_)
  refine WL.want rfl (WL1.give rfl (g_notF rfl (.mk rfl rfl)) ?_)
  refine WL.nil ?_
  (refine hK _ _ ?_; clear hK)
  refine WC.cond_true (.mk rfl rfl) ?_
  (refine WC.seq ?_; intro K hK)
  refine WC.region rfl ?_
  refine WL.want rfl (WL1.give rfl (g_assign rfl (.mk (v := .slice _ _ _) rfl rfl)) ?_)
  refine WL.want rfl (WL1.give rfl (g_assign rfl (.mk (v := .int _ _) rfl rfl)) ?_)
  refine WL.nil ?_
  (refine hK _ _ ?_; clear hK)
  refine WC.ret ?_
  exact fun w' hw' => ⟨rfl, hw'.1⟩
end Go.Proofs.Ytlcddlipcdimeaa
