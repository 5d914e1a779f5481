/- The code's algebra, in plain Lean: sums of blocks, linearity of the parity, syndromes, and that no three columns depend on each other. No condition. -/
import Derived.Test.YtkifedekpmgfpaaPar8
namespace Go.Proofs.Ytkifedekpmgfpaa
open Go.RowKit
/-! ### Sums -/
def bsum : Nat → (Nat → Blk) → Blk
  | 0, _ => 0
  | n + 1, f => bsum n f + f n
theorem bsum_congr {n : Nat} {f g : Nat → Blk} (h : ∀ k, k < n → f k = g k) : bsum n f = bsum n g := by
  induction n with
  | zero => rfl
  | succ n ih => rw [bsum, bsum, ih fun k hk => h k (by omega), h n (by omega)]
theorem bsum_add (n : Nat) (f g : Nat → Blk) : bsum n (fun k => f k + g k) = bsum n f + bsum n g := by
  induction n with
  | zero => exact (Blk.add_zero 0).symm
  | succ n ih => rw [bsum, bsum, bsum, ih]; ac_rfl
theorem bsum_zero {n : Nat} {f : Nat → Blk} (h : ∀ k, k < n → f k = 0) : bsum n f = 0 := by
  induction n with
  | zero => rfl
  | succ n ih => rw [bsum, ih fun k hk => h k (by omega), h n (by omega), Blk.add_zero]
theorem bsum_take {n a : Nat} (ha : a < n) (f : Nat → Blk) : bsum n f = f a + bsum n (fun k => if k = a then 0 else f k) := by
  induction n with
  | zero => omega
  | succ n ih =>
    rw [bsum, bsum]
    by_cases h : a = n
    · subst h
      rw [if_pos rfl, Blk.add_zero, Blk.add_comm]
      congr 1
      exact bsum_congr fun k hk => by rw [if_neg (by omega)]
    · rw [ih (by omega), if_neg (by omega), Blk.add_assoc]
theorem mul_bsum (c : G) (n : Nat) (f : Nat → Blk) : c * bsum n f = bsum n (fun k => c * f k) := by
  induction n with
  | zero => exact Blk.mul_zero c
  | succ n ih => rw [bsum, bsum, Blk.mul_add, ih]
/-! ### Linearity -/
def addL (a b : List Blk) : List Blk := (List.range a.length).map fun i => nth a i + nth b i
def mulL (c : G) (a : List Blk) : List Blk := a.map fun x => c * x
theorem rs_bsum (c : G) (ds : List Blk) (n : Nat) : rs c ds n = bsum n (fun i => gpow c i * nth ds i) := by
  induction n with
  | zero => rfl
  | succ n ih => rw [rs, bsum, ih]
theorem hor_bsum (c : G) (ds : List Blk) : hor c ds = bsum ds.length (fun i => gpow c i * nth ds i) := by rw [← rs_hor, rs_bsum]
theorem hor_addL (c : G) {a b : List Blk} (h : a.length = b.length) : hor c (addL a b) = hor c a + hor c b := by
  rw [hor_bsum, hor_bsum, hor_bsum, ← h, ← bsum_add]
  have : (addL a b).length = a.length := by simp [addL]
  rw [this]
  exact bsum_congr fun k hk => by rw [addL, nth_range _ hk, Blk.mul_add]
theorem hor_mulL (s c : G) : ∀ a : List Blk, hor c (mulL s a) = s * hor c a
  | [] => (Blk.mul_zero s).symm
  | x :: a => by
    show s * x + c * hor c (mulL s a) = s * (x + c * hor c a)
    rw [hor_mulL s c a, Blk.mul_add, ← Blk.mul_mul, ← Blk.mul_mul, G.mul_comm]
theorem hor_set (c : G) : ∀ (ds : List Blk) (i : Nat) (b : Blk), i < ds.length → hor c (ds.set i b) = hor c ds + gpow c i * (nth ds i + b)
  | [], i, b, h => absurd h (by simp)
  | d :: ds, 0, b, _ => by
    rw [List.set_cons_zero, hor, hor, nth_zero, gpow_zero, Blk.one_mul, ← Blk.add_assoc, Blk.add_comm _ d, ← Blk.add_assoc, Blk.add_self, Blk.zero_add, Blk.add_comm]
  | d :: ds, i + 1, b, h => by
    rw [List.set_cons_succ, hor, hor_set c ds i b (by simpa using h), hor, nth_succ, Blk.mul_add, ← Blk.mul_mul, gpow_succ, G.mul_comm c, Blk.add_assoc]
theorem hor_zero_cons (c : G) (ds : List Blk) : hor c (0 :: ds) = c * hor c ds := by rw [hor, Blk.zero_add]
theorem hor_snoc_zero (c : G) : ∀ ds : List Blk, hor c (ds ++ [0]) = hor c ds
  | [] => by show (0 : Blk) + c * (0 : Blk) = 0; rw [Blk.mul_zero, Blk.add_zero]
  | d :: ds => by rw [List.cons_append, hor, hor, hor_snoc_zero c ds]
theorem enc_len (ds : List Blk) : (enc ds).length = 3 := rfl
theorem enc_nth (ds : List Blk) {q : Nat} (h : q < 3) : nth (enc ds) q = hor (gpow 2 q) ds := nth_range _ h
theorem upd_enc (ds : List Blk) {i : Nat} (b : Blk) (h : i < ds.length) : upd (enc ds) i (nth ds i + b) = enc (ds.set i b) :=
  List.map_congr_left fun j hj => by
    have hj3 : j < 3 := by simpa using hj
    rw [hor_set _ _ _ _ h, enc_nth _ hj3, gpow_gpow, Nat.mul_comm]
/-! ### Syndromes -/
/-- Coefficient of piece k in syndrome q, in a group of n data pieces. -/
def col (n q k : Nat) : G := if k < n then gpow 2 (q * k) else if k = n + q then 1 else 0
def syn (n : Nat) (f : Nat → Blk) (q : Nat) : Blk := bsum (n + 3) fun k => col n q k * f k
theorem syn_add (n : Nat) (f g : Nat → Blk) (q : Nat) : syn n (fun k => f k + g k) q = syn n f q + syn n g q := by
  unfold syn; rw [← bsum_add]; exact bsum_congr fun k _ => Blk.mul_add _ _ _
theorem syn_list {ps : List Blk} {n q : Nat} (h : ps.length = n + 3) (hq : q < 3) : syn n (nth ps) q = hor (gpow 2 q) (ps.take n) + nth ps (n + q) := by
  have hl : (ps.take n).length = n := by rw [List.length_take]; omega
  have h1 : bsum n (fun k => col n q k * nth ps k) = hor (gpow 2 q) (ps.take n) := by
    rw [hor_bsum, hl]
    refine bsum_congr fun k hk => ?_
    rw [col, if_pos hk, gpow_gpow]
    congr 1
    unfold nth
    simp [List.getD_eq_getElem?_getD, List.getElem?_take, hk]
  have hc : ∀ j, j < 3 → col n q (n + j) = if j = q then 1 else 0 := fun j _ => by
    rw [col, if_neg (by omega)]
    by_cases e : j = q
    · rw [if_pos e, if_pos (by omega)]
    · rw [if_neg e, if_neg (by omega)]
  have hb : bsum (n + 3) (fun k => col n q k * nth ps k) = bsum n (fun k => col n q k * nth ps k) + col n q n * nth ps n + col n q (n + 1) * nth ps (n + 1) + col n q (n + 2) * nth ps (n + 2) := rfl
  rw [syn, hb, h1, show col n q n = if (0 : Nat) = q then 1 else 0 from hc 0 (by omega), hc 1 (by omega), hc 2 (by omega)]
  have h3 : q = 0 ∨ q = 1 ∨ q = 2 := by omega
  rcases h3 with rfl | rfl | rfl <;> simp [Blk.one_mul, Blk.zero_mul, Blk.add_zero]
theorem isGroup_syn {ps : List Blk} {n : Nat} (h : ps.length = n + 3) (h1 : 4 ≤ ps.length) (h2 : ps.length ≤ 16) : isGroup ps = true ↔ ∀ q, q < 3 → syn n (nth ps) q = 0 := by
  rw [isGroup_at h h1 h2, decide_eq_true_eq]
  have hd : ∀ q, nth (ps.drop n) q = nth ps (n + q) := fun q => by unfold nth; simp [List.getD_eq_getElem?_getD, List.getElem?_drop]
  constructor
  · intro e q hq
    rw [syn_list h hq, ← enc_nth _ hq, e, hd, Blk.add_self]
  · intro e
    refine list_ext_nth (by rw [enc_len, List.length_drop]; omega) fun q hq => ?_
    have hq3 : q < 3 := hq
    rw [enc_nth _ hq3, hd]
    have := e q hq3
    rw [syn_list h hq3] at this
    exact Blk.add_cancel this
/-! ### No three columns depend on each other -/
/-- The same coefficients with the parity pieces behind thirteen data pieces. -/
def colv (p q : Nat) : Nat := if p < 13 then pow2 (q * p) else if p = 13 + q then 1 else 0
def det3 (a b c : Nat) : Nat :=
  gmul (colv a 0) (gmul (colv b 1) (colv c 2) ^^^ gmul (colv b 2) (colv c 1)) ^^^ gmul (colv a 1) (gmul (colv b 0) (colv c 2) ^^^ gmul (colv b 2) (colv c 0)) ^^^ gmul (colv a 2) (gmul (colv b 0) (colv c 1) ^^^ gmul (colv b 1) (colv c 0))
theorem det_check : allB 16 (fun a => allB 16 fun b => Nat.beq a b || allB 16 fun c => Nat.beq a c || Nat.beq b c || Nat.blt 0 (det3 a b c)) = true := by decide +kernel
def code (n k : Nat) : Nat := if k < n then k else k - n + 13
theorem col_val {n k : Nat} (q : Nat) (hn : n ≤ 13) (hk : k < n + 3) : (col n q k).val = colv (code n k) q := by
  by_cases h : k < n
  · have h1 : code n k = k := if_pos h
    rw [h1, col, if_pos h, colv, if_pos (by omega), gpow_two_val]
  · have h1 : code n k = k - n + 13 := if_neg h
    rw [h1, col, if_neg h, colv, if_neg (show ¬ k - n + 13 < 13 by omega)]
    by_cases h2 : k = n + q
    · rw [if_pos h2, if_pos (by omega)]; rfl
    · rw [if_neg h2, if_neg (by omega)]; rfl
def det (n a b c : Nat) : G := col n 0 a * (col n 1 b * col n 2 c + col n 2 b * col n 1 c) + col n 1 a * (col n 0 b * col n 2 c + col n 2 b * col n 0 c) + col n 2 a * (col n 0 b * col n 1 c + col n 1 b * col n 0 c)
theorem det_ne {n a b c : Nat} (hn : n ≤ 13) (ha : a < n + 3) (hb : b < n + 3) (hc : c < n + 3) (hab : a ≠ b) (hac : a ≠ c) (hbc : b ≠ c) : det n a b c ≠ 0 := by
  intro h
  have hv : (det n a b c).val = det3 (code n a) (code n b) (code n c) := by
    simp only [det, det3, G.val_add, G.val_mul, col_val _ hn ha, col_val _ hn hb, col_val _ hn hc]
  rw [h] at hv
  have hlt : ∀ k, k < n + 3 → code n k < 16 := fun k hk => by unfold code; split <;> omega
  have hne : ∀ k j, k < n + 3 → j < n + 3 → k ≠ j → Nat.beq (code n k) (code n j) = false := fun k j hk hj hkj => by
    cases hbq : Nat.beq (code n k) (code n j) with
    | false => rfl
    | true => have := Nat.eq_of_beq_eq_true hbq; unfold code at this; split at this <;> split at this <;> omega
  have h1 := allB_spec det_check _ (hlt a ha)
  have h2 := allB_spec h1 _ (hlt b hb)
  rw [hne a b ha hb hab, Bool.false_or] at h2
  have h3 := allB_spec h2 _ (hlt c hc)
  rw [hne a c ha hc hac, hne b c hb hc hbc, ← hv] at h3
  cases h3
theorem cramer {p0 p1 p2 q0 q1 q2 r0 r1 r2 x y z : G} (h0 : p0 * x + q0 * y + r0 * z = 0) (h1 : p1 * x + q1 * y + r1 * z = 0) (h2 : p2 * x + q2 * y + r2 * z = 0) :
    (p0 * (q1 * r2 + q2 * r1) + p1 * (q0 * r2 + q2 * r0) + p2 * (q0 * r1 + q1 * r0)) * x = 0 := by
  have e : (q1 * r2 + q2 * r1) * (p0 * x + q0 * y + r0 * z) + (q0 * r2 + q2 * r0) * (p1 * x + q1 * y + r1 * z) + (q0 * r1 + q1 * r0) * (p2 * x + q2 * y + r2 * z) = 0 := by
    rw [h0, h1, h2, G.mul_zero, G.mul_zero, G.mul_zero]; rfl
  have e2 : (q1 * r2 + q2 * r1) * (p0 * x + q0 * y + r0 * z) + (q0 * r2 + q2 * r0) * (p1 * x + q1 * y + r1 * z) + (q0 * r1 + q1 * r0) * (p2 * x + q2 * y + r2 * z) =
      (p0 * (q1 * r2 + q2 * r1) + p1 * (q0 * r2 + q2 * r0) + p2 * (q0 * r1 + q1 * r0)) * x
      + ((q0 * q1 * r2 * y + q0 * q1 * r2 * y) + (q0 * q2 * r1 * y + q0 * q2 * r1 * y) + (q1 * q2 * r0 * y + q1 * q2 * r0 * y))
      + ((q1 * r0 * r2 * z + q1 * r0 * r2 * z) + (q2 * r0 * r1 * z + q2 * r0 * r1 * z) + (q0 * r1 * r2 * z + q0 * r1 * r2 * z)) := by
    simp only [G.mul_add, G.add_mul]
    ac_rfl
  rw [e2] at e
  simpa [G.add_self, G.add_zero] using e
theorem mds1 {n a b c : Nat} (hn : n ≤ 13) (ha : a < n + 3) (hb : b < n + 3) (hc : c < n + 3) (hab : a ≠ b) (hac : a ≠ c) (hbc : b ≠ c) {x y z : G} (h : ∀ q, q < 3 → col n q a * x + col n q b * y + col n q c * z = 0) : x = 0 := by
  have := cramer (h 0 (by omega)) (h 1 (by omega)) (h 2 (by omega))
  rcases mul_eq_zero_iff.1 this with h | h
  · exact absurd h (det_ne hn ha hb hc hab hac hbc)
  · exact h
theorem mdsB {n a b c : Nat} (hn : n ≤ 13) (ha : a < n + 3) (hb : b < n + 3) (hc : c < n + 3) (hab : a ≠ b) (hac : a ≠ c) (hbc : b ≠ c) {x y z : Blk} (h : ∀ q, q < 3 → col n q a * x + col n q b * y + col n q c * z = 0) : x = 0 :=
  Blk.ext_at fun k hk => by
    rw [Blk.zero_at hk]
    refine mds1 hn ha hb hc hab hac hbc (x := x.at k) (y := y.at k) (z := z.at k) fun q hq => ?_
    have := congrArg (fun b : Blk => b.at k) (h q hq)
    simpa [Blk.add_at _ _ hk, Blk.mul_at _ _ hk, Blk.zero_at hk] using this
/-- A word of the code that is 0 but at three places is 0. -/
theorem mds {n a b c : Nat} (hn : n ≤ 13) (ha : a < n + 3) (hb : b < n + 3) (hc : c < n + 3) (hab : a ≠ b) (hac : a ≠ c) (hbc : b ≠ c) {f : Nat → Blk} (h0 : ∀ k, k < n + 3 → k ≠ a → k ≠ b → k ≠ c → f k = 0) (h : ∀ q, q < 3 → syn n f q = 0) : ∀ k, k < n + 3 → f k = 0 := by
  have key : ∀ q, q < 3 → col n q a * f a + col n q b * f b + col n q c * f c = 0 := fun q hq => by
    have := h q hq
    rw [syn, bsum_take ha, bsum_take hb, bsum_take hc, bsum_zero] at this
    · rw [if_neg (fun h => hab h.symm), if_neg (fun h => hbc h.symm), if_neg (fun h => hac h.symm)] at this
      rw [Blk.add_zero, ← Blk.add_assoc] at this
      exact this
    · intro k hk
      by_cases h1 : k = c
      · rw [if_pos h1]
      · by_cases h2 : k = b
        · rw [if_neg h1, if_pos h2]
        · by_cases h3 : k = a
          · rw [if_neg h1, if_neg h2, if_pos h3]
          · rw [if_neg h1, if_neg h2, if_neg h3, h0 k hk h3 h2 h1, Blk.mul_zero]
  have hA := mdsB hn ha hb hc hab hac hbc key
  have hB := mdsB hn hb ha hc (fun h => hab h.symm) hbc hac (x := f b) (y := f a) (z := f c) fun q hq => by rw [Blk.add_comm (col n q b * f b)]; exact key q hq
  have hC := mdsB hn hc ha hb (fun h => hac h.symm) (fun h => hbc h.symm) hab (x := f c) (y := f a) (z := f b) fun q hq => by rw [Blk.add_assoc, Blk.add_comm]; exact key q hq
  intro k hk
  by_cases h1 : k = a
  · rw [h1]; exact hA
  by_cases h2 : k = b
  · rw [h2]; exact hB
  by_cases h3 : k = c
  · rw [h3]; exact hC
  exact h0 k hk h1 h2 h3
/-- Three places among which all of these are. -/
theorem three {m : Nat} (h : 3 ≤ m) {a b c : Nat} (ha : a < m) (hb : b < m) (hc : c < m) : ∃ x y z, x < m ∧ y < m ∧ z < m ∧ x ≠ y ∧ x ≠ z ∧ y ≠ z ∧ ∀ k, k ≠ x → k ≠ y → k ≠ z → k ≠ a ∧ k ≠ b ∧ k ≠ c := by
  have two : ∀ p q, p < m → q < m → p ≠ q → ∃ z, z < m ∧ p ≠ z ∧ q ≠ z := fun p q hp hq hpq => by
    by_cases h0 : p ≠ 0 ∧ q ≠ 0
    · exact ⟨0, by omega, h0.1, h0.2⟩
    by_cases h1 : p ≠ 1 ∧ q ≠ 1
    · exact ⟨1, by omega, h1.1, h1.2⟩
    · exact ⟨2, by omega, by omega, by omega⟩
  by_cases hab : a = b
  · by_cases hac : a = c
    · obtain ⟨y, hy, h1⟩ : ∃ y, y < m ∧ a ≠ y := by
        by_cases h0 : a = 0
        · exact ⟨1, by omega, by omega⟩
        · exact ⟨0, by omega, h0⟩
      obtain ⟨z, hz, h2, h3⟩ := two a y ha hy h1
      exact ⟨a, y, z, ha, hy, hz, h1, h2, h3, fun k h1 h2 h3 => ⟨h1, by omega, by omega⟩⟩
    · obtain ⟨z, hz, h2, h3⟩ := two a c ha hc hac
      exact ⟨a, c, z, ha, hc, hz, hac, h2, h3, fun k h1 h2 h3 => ⟨h1, by omega, h2⟩⟩
  · by_cases hc1 : c = a ∨ c = b
    · obtain ⟨z, hz, h2, h3⟩ := two a b ha hb hab
      exact ⟨a, b, z, ha, hb, hz, hab, h2, h3, fun k h1 h2 h3 => ⟨h1, h2, by omega⟩⟩
    · exact ⟨a, b, c, ha, hb, hc, hab, by omega, by omega, fun k h1 h2 h3 => ⟨h1, h2, h3⟩⟩
theorem add_eq_zero {a b : Blk} : a + b = 0 ↔ a = b := ⟨Blk.add_cancel, fun h => by rw [h, Blk.add_self]⟩
/-- Two consistent groups that differ at three places at most are one. -/
theorem near_groups {p q : List Blk} (h1 : 4 ≤ p.length) (h2 : p.length ≤ 16) (hl : q.length = p.length) (hp : isGroup p = true) (hq : isGroup q = true) {a b c : Nat} (ha : a < p.length) (hb : b < p.length) (hc : c < p.length) (h : ∀ k, k < p.length → k ≠ a → k ≠ b → k ≠ c → nth q k = nth p k) : q = p := by
  obtain ⟨n, hn⟩ : ∃ n, p.length = n + 3 := ⟨p.length - 3, by omega⟩
  obtain ⟨x, y, z, hx, hy, hz, hxy, hxz, hyz, hk⟩ := three (m := p.length) (by omega) ha hb hc
  rw [hn] at hx hy hz
  have hs := mds (n := n) (f := fun k => nth q k + nth p k) (by omega) hx hy hz hxy hxz hyz (fun k hkn h1 h2 h3 => by
    obtain ⟨e1, e2, e3⟩ := hk k h1 h2 h3
    show nth q k + nth p k = 0
    rw [h k (by omega) e1 e2 e3, Blk.add_self]) (fun j hj => by
      rw [syn_add, (isGroup_syn (by omega) (by omega) (by omega)).1 hq j hj, (isGroup_syn hn h1 h2).1 hp j hj, Blk.add_zero])
  exact list_ext_nth hl fun k hk => Blk.add_cancel (hs k (by omega))
theorem isGroup_enc {ds : List Blk} (h1 : 1 ≤ ds.length) (h2 : ds.length ≤ 13) : isGroup (ds ++ enc ds) = true := by
  have hl : (ds ++ enc ds).length = ds.length + 3 := by rw [List.length_append]; rfl
  rw [isGroup_at hl (by omega) (by omega), List.take_left, List.drop_left]
  exact decide_eq_true rfl
end Go.Proofs.Ytkifedekpmgfpaa
