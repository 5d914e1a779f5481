/- Products, identities, transposes of square matrices, in plain Lean; and square matrices of elements in a row. No condition. -/
import Derived.Test.YtlkemgefioiffaaMat11
namespace Go.Proofs.Ytlkemgefioiffaa
theorem mat_ext {a b : List (List G)} {n m : Nat} (ha : Shp a n m) (hb : Shp b n m) (h : ∀ i, i < n → ∀ j, j < m → el a i j = el b i j) : a = b :=
  list_ext_nth (ha.1.trans hb.1.symm) fun i hi => by
    rw [ha.1] at hi
    exact list_ext_nth ((ha.2 i hi).trans (hb.2 i hi).symm) fun j hj => by rw [ha.2 i hi] at hj; exact h i hi j hj
section
variable {a b c : List (List G)} {n m p : Nat}
theorem Shp.mul (ha : Shp a n m) (hb : Shp b m p) (hm : 1 ≤ m) : Shp (mulM a b) n p :=
  ⟨by simp [mulM, ha.1], fun i hi => by rw [mulM, nth_range _ (by rw [ha.1]; exact hi), mrow_len, hb.2 0 (by omega)]⟩
theorem el_mul (ha : Shp a n m) (hb : Shp b m p) (hm : 1 ≤ m) {i j : Nat} (hi : i < n) (hj : j < p) : el (mulM a b) i j = gsum m fun k => el a i k * el b k j := by
  unfold el
  rw [mulM, nth_range _ (by rw [ha.1]; exact hi), mrow, hb.2 0 (by omega), nth_range _ hj, hb.1]; rfl
theorem Shp.id (n : Nat) : Shp (idM n) n n := ⟨by simp [idM], fun i hi => by rw [idM, nth_range _ hi]; simp⟩
theorem el_id {n i j : Nat} (hi : i < n) (hj : j < n) : el (idM n) i j = dlt i j := by
  unfold el; rw [idM, nth_range _ hi, nth_range _ hj]
theorem Shp.tr (ha : Shp a n m) (hn : 1 ≤ n) : Shp (trM a) m n :=
  ⟨by simp [trM, ha.2 0 (by omega)], fun i hi => by rw [trM, nth_range _ (by rw [ha.2 0 (by omega)]; exact hi)]; simp [ha.1]⟩
theorem el_tr (ha : Shp a n m) (hn : 1 ≤ n) {i j : Nat} (hi : i < m) (hj : j < n) : el (trM a) i j = el a j i := by
  show nth (nth (trM a) i) j = _
  rw [trM, nth_range _ (by rw [ha.2 0 (by omega)]; exact hi), nth_range _ (by rw [ha.1]; exact hj)]
end
section
variable {a b c : List (List G)} {n : Nat}
theorem mul_assoc3 (ha : Shp a n n) (hb : Shp b n n) (hc : Shp c n n) (hn : 1 ≤ n) : mulM (mulM a b) c = mulM a (mulM b c) :=
  mat_ext ((ha.mul hb hn).mul hc hn) (ha.mul (hb.mul hc hn) hn) fun i hi j hj => by
    rw [el_mul (ha.mul hb hn) hc hn hi hj, el_mul ha (hb.mul hc hn) hn hi hj]
    have e1 : (gsum n fun k => el (mulM a b) i k * el c k j) = gsum n fun k => (gsum n fun t => el a i t * el b t k) * el c k j := gsum_congr fun k hk => by rw [el_mul ha hb hn hi hk]
    have e2 : (gsum n fun t => el a i t * el (mulM b c) t j) = gsum n fun t => el a i t * gsum n fun k => el b t k * el c k j := gsum_congr fun t ht => by rw [el_mul hb hc hn ht hj]
    rw [e1, e2, gsum_assoc]
theorem mul_id (ha : Shp a n n) (hn : 1 ≤ n) : mulM a (idM n) = a :=
  mat_ext (ha.mul (Shp.id n) hn) ha fun i hi j hj => by
    rw [el_mul ha (Shp.id n) hn hi hj, show (gsum n fun k => el a i k * el (idM n) k j) = gsum n fun k => el a i k * dlt k j from gsum_congr fun k hk => by rw [el_id hk hj], gsum_dlt' hj]
theorem tr_mul (ha : Shp a n n) (hb : Shp b n n) (hn : 1 ≤ n) : trM (mulM a b) = mulM (trM b) (trM a) :=
  mat_ext ((ha.mul hb hn).tr hn) ((hb.tr hn).mul (ha.tr hn) hn) fun i hi j hj => by
    rw [el_tr (ha.mul hb hn) hn hi hj, el_mul ha hb hn hj hi, el_mul (hb.tr hn) (ha.tr hn) hn hi hj]
    exact gsum_congr fun k hk => by rw [el_tr hb hn hi hk, el_tr ha hn hk hj, G.mul_comm]
/-- Inverse on both sides, of the law's own words. -/
theorem inv_mul {v : List (List G)} (ha : Shp a n n) (hn : 1 ≤ n) (h : invM a = some v) : mulM v a = idM n ∧ mulM a v = idM n := by
  obtain ⟨h1, h2, h3⟩ := invM_some ha h
  exact ⟨mat_ext (h1.mul ha hn) (Shp.id n) fun i hi j hj => by rw [el_mul h1 ha hn hi hj, h2 i hi j hj, el_id hi hj],
    mat_ext (ha.mul h1 hn) (Shp.id n) fun i hi j hj => by rw [el_mul ha h1 hn hi hj, h3 i hi j hj, el_id hi hj]⟩
end
theorem Shp.good {rs : List Row} {n m : Nat} (h : Shp (els rs) n m) (h1 : 1 ≤ n) (h2 : n ≤ 64) (h3 : 1 ≤ m) (h4 : m ≤ 64) : Good (els rs) := by
  have hl : rs.length = n := by rw [← els_len]; exact h.1
  have hr : ∀ k, k < rs.length → (nth rs k).l.length = m := fun k hk => by rw [← els_at hk]; exact h.2 k (by omega)
  exact good_of (by omega) (by omega) (by rw [hr 0 (by omega)]; exact h3) (by rw [hr 0 (by omega)]; exact h4) fun k hk => by rw [hr k hk, hr 0 (by omega)]
theorem Good.shp {rs : List Row} (h : Good (els rs)) : Shp (els rs) rs.length (nth rs 0).l.length := ⟨els_len rs, fun i hi => by rw [els_at hi]; exact h.row hi⟩
/-- The first t rows of width k of matrix i in a row of elements. -/
def matX (l : List G) (k i t : Nat) : List (List G) := fstL (fun r => (l.drop (i * 36 + r * k)).take k) t
theorem matX_shp {l : List G} (hl : l.length = 108) {k i : Nat} (hk : k ≤ 6) (hi : i < 3) : Shp (matX l k i k) k k :=
  ⟨fstL_len _ _, fun r hr => by
    rw [matX, fstL, nth_range _ hr, List.length_take, List.length_drop, hl]
    have : r * k + k ≤ 36 := by
      have := Nat.mul_le_mul (show r + 1 ≤ 6 by omega) hk
      rw [Nat.add_mul] at this; omega
    omega⟩
theorem take_bvs {l : List G} {k lo m : Nat} : ((bvs l).drop (k + lo * 1)).take (m * 1) = bvs ((l.drop (k + lo)).take m) := by
  unfold bvs; rw [Nat.mul_one, Nat.mul_one, List.map_take, List.map_drop]
end Go.Proofs.Ytlkemgefioiffaa
