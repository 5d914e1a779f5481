/- Texts joined: Code, Dec1, Gen, Gen2, Dec2, Dec3, Bas, Dec4, IW, Top1, Top2, Top3, Top4, Top5, Top6, Top7, Good, Dec6, Dec7, Dec8, Loc, Gg, Gj, Dec5, Dec9, Top8, Mks, Law, Open, Open2, OpenF, OpenG, Top9. The parts say what each of them proves. No condition. -/
import Derived.Test.YtdcijljfgcjelaaGreatJh2
import Derived.ProofKit
import Derived.OpenShut
import Derived.Deep.Slices
import Derived.Deep.Fields
import Derived.Test.YtdcijljfgcjelaaGreatRows
import Derived.Lib.SmallJoins
namespace Go.Proofs.YtdcijljfgcjelaaGreat
set_option maxRecDepth 20000
open Go.RowKit
/-! ### Sums -/
def bsum : Nat → (Nat → Blk) → Blk
 | 0, _ => 0
 | n + 1, f => bsum n f + f n
theorem bsum_congr {n : Nat} {f g : Nat → Blk} (h : ∀ k, k < n → f k = g k) : bsum n f = bsum n g := by
 induction n with
 | zero => rfl
 | succ n ih => rw [bsum, bsum, ih fun k hk => h k (by omega), h n (by omega)]
theorem bsum_add (n : Nat) (f g : Nat → Blk) : bsum n (fun k => f k + g k) = bsum n f + bsum n g := by
 induction n with
 | zero => exact (Blk.add_zero 0).symm
 | succ n ih => rw [bsum, bsum, bsum, ih]; ac_rfl
theorem bsum_zero {n : Nat} {f : Nat → Blk} (h : ∀ k, k < n → f k = 0) : bsum n f = 0 := by
 induction n with
 | zero => rfl
 | succ n ih => rw [bsum, ih fun k hk => h k (by omega), h n (by omega), Blk.add_zero]
theorem bsum_take {n a : Nat} (ha : a < n) (f : Nat → Blk) : bsum n f = f a + bsum n (fun k => if k = a then 0 else f k) := by
 induction n with
 | zero => omega
 | succ n ih =>
   rw [bsum, bsum]
   by_cases h : a = n
   · subst h
     rw [if_pos rfl, Blk.add_zero, Blk.add_comm]
     congr 1
     exact bsum_congr fun k hk => by rw [if_neg (by omega)]
   · rw [ih (by omega), if_neg (by omega), Blk.add_assoc]
/-! ### Linearity -/
def addL (a b : List Blk) : List Blk := (List.range a.length).map fun i => nth a i + nth b i
def mulL (c : G) (a : List Blk) : List Blk := a.map fun x => c * x
theorem rs_bsum (c : G) (ds : List Blk) (n : Nat) : rs c ds n = bsum n (fun i => gpow c i * nth ds i) := by
 induction n with
 | zero => rfl
 | succ n ih => rw [rs, bsum, ih]
theorem hor_bsum (c : G) (ds : List Blk) : hor c ds = bsum ds.length (fun i => gpow c i * nth ds i) := by rw [← rs_hor, rs_bsum]
theorem enc_len (ds : List Blk) : (enc ds).length = 3 := rfl
theorem enc_nth (ds : List Blk) {q : Nat} (h : q < 3) : nth (enc ds) q = hor (gpow 2 q) ds := nth_range _ h
/-! ### Syndromes -/
def col (n q k : Nat) : G := if k < n then gpow 2 (q * k) else if k = n + q then 1 else 0
def syn (n : Nat) (f : Nat → Blk) (q : Nat) : Blk := bsum (n + 3) fun k => col n q k * f k
theorem syn_add (n : Nat) (f g : Nat → Blk) (q : Nat) : syn n (fun k => f k + g k) q = syn n f q + syn n g q := by
 unfold syn; rw [← bsum_add]; exact bsum_congr fun k _ => Blk.mul_add _ _ _
theorem syn_list {ps : List Blk} {n q : Nat} (h : ps.length = n + 3) (hq : q < 3) : syn n (nth ps) q = hor (gpow 2 q) (ps.take n) + nth ps (n + q) := by
 have hl : (ps.take n).length = n := by rw [List.length_take]; omega
 have h1 : bsum n (fun k => col n q k * nth ps k) = hor (gpow 2 q) (ps.take n) := by
   rw [hor_bsum, hl]
   refine bsum_congr fun k hk => ?_
   rw [col, if_pos hk, gpow_gpow]
   congr 1
   unfold nth
   simp [List.getD_eq_getElem?_getD, List.getElem?_take, hk]
 have hc : ∀ j, j < 3 → col n q (n + j) = if j = q then 1 else 0 := fun j _ => by
   rw [col, if_neg (by omega)]
   by_cases e : j = q
   · rw [if_pos e, if_pos (by omega)]
   · rw [if_neg e, if_neg (by omega)]
 have hb : bsum (n + 3) (fun k => col n q k * nth ps k) = bsum n (fun k => col n q k * nth ps k) + col n q n * nth ps n + col n q (n + 1) * nth ps (n + 1) + col n q (n + 2) * nth ps (n + 2) := rfl
 rw [syn, hb, h1, show col n q n = if (0 : Nat) = q then 1 else 0 from hc 0 (by omega), hc 1 (by omega), hc 2 (by omega)]
 have h3 : q = 0 ∨ q = 1 ∨ q = 2 := by omega
 rcases h3 with rfl | rfl | rfl <;> simp [Blk.one_mul, Blk.zero_mul, Blk.add_zero]
theorem isGroup_syn {ps : List Blk} {n : Nat} (h : ps.length = n + 3) (h1 : 4 ≤ ps.length) (h2 : ps.length ≤ 16) : isGroup ps = true ↔ ∀ q, q < 3 → syn n (nth ps) q = 0 := by
 rw [isGroup_at h h1 h2, decide_eq_true_eq]
 have hd : ∀ q, nth (ps.drop n) q = nth ps (n + q) := fun q => by unfold nth; simp [List.getD_eq_getElem?_getD, List.getElem?_drop]
 constructor
 · intro e q hq
   rw [syn_list h hq, ← enc_nth _ hq, e, hd, Blk.add_self]
 · intro e
   refine list_ext_nth (by rw [enc_len, List.length_drop]; omega) fun q hq => ?_
   have hq3 : q < 3 := hq
   rw [enc_nth _ hq3, hd]
   have := e q hq3
   rw [syn_list h hq3] at this
   exact Blk.add_cancel this
/-! ### No three columns depend on each other -/
def colv (p q : Nat) : Nat := if p < 13 then pow2 (q * p) else if p = 13 + q then 1 else 0
def det3 (a b c : Nat) : Nat :=
 gmul (colv a 0) (gmul (colv b 1) (colv c 2) ^^^ gmul (colv b 2) (colv c 1)) ^^^ gmul (colv a 1) (gmul (colv b 0) (colv c 2) ^^^ gmul (colv b 2) (colv c 0)) ^^^ gmul (colv a 2) (gmul (colv b 0) (colv c 1) ^^^ gmul (colv b 1) (colv c 0))
theorem det_check : allB 16 (fun a => allB 16 fun b => Nat.beq a b || allB 16 fun c => Nat.beq a c || Nat.beq b c || Nat.blt 0 (det3 a b c)) = true := by decide +kernel
def code (n k : Nat) : Nat := if k < n then k else k - n + 13
theorem col_val {n k : Nat} (q : Nat) (hn : n ≤ 13) (hk : k < n + 3) : (col n q k).val = colv (code n k) q := by
 by_cases h : k < n
 · have h1 : code n k = k := if_pos h
   rw [h1, col, if_pos h, colv, if_pos (by omega), gpow_two_val]
 · have h1 : code n k = k - n + 13 := if_neg h
   rw [h1, col, if_neg h, colv, if_neg (show ¬ k - n + 13 < 13 by omega)]
   by_cases h2 : k = n + q
   · rw [if_pos h2, if_pos (by omega)]; rfl
   · rw [if_neg h2, if_neg (by omega)]; rfl
def det (n a b c : Nat) : G := col n 0 a * (col n 1 b * col n 2 c + col n 2 b * col n 1 c) + col n 1 a * (col n 0 b * col n 2 c + col n 2 b * col n 0 c) + col n 2 a * (col n 0 b * col n 1 c + col n 1 b * col n 0 c)
theorem det_ne {n a b c : Nat} (hn : n ≤ 13) (ha : a < n + 3) (hb : b < n + 3) (hc : c < n + 3) (hab : a ≠ b) (hac : a ≠ c) (hbc : b ≠ c) : det n a b c ≠ 0 := by
 intro h
 have hv : (det n a b c).val = det3 (code n a) (code n b) (code n c) := by
   simp only [det, det3, G.val_add, G.val_mul, col_val _ hn ha, col_val _ hn hb, col_val _ hn hc]
 rw [h] at hv
 have hlt : ∀ k, k < n + 3 → code n k < 16 := fun k hk => by unfold code; split <;> omega
 have hne : ∀ k j, k < n + 3 → j < n + 3 → k ≠ j → Nat.beq (code n k) (code n j) = false := fun k j hk hj hkj => by
   cases hbq : Nat.beq (code n k) (code n j) with
   | false => rfl
   | true => have := Nat.eq_of_beq_eq_true hbq; unfold code at this; split at this <;> split at this <;> omega
 have h1 := allB_spec det_check _ (hlt a ha)
 have h2 := allB_spec h1 _ (hlt b hb)
 rw [hne a b ha hb hab, Bool.false_or] at h2
 have h3 := allB_spec h2 _ (hlt c hc)
 rw [hne a c ha hc hac, hne b c hb hc hbc, ← hv] at h3
 cases h3
theorem cramer {p0 p1 p2 q0 q1 q2 r0 r1 r2 x y z : G} (h0 : p0 * x + q0 * y + r0 * z = 0) (h1 : p1 * x + q1 * y + r1 * z = 0) (h2 : p2 * x + q2 * y + r2 * z = 0) :
   (p0 * (q1 * r2 + q2 * r1) + p1 * (q0 * r2 + q2 * r0) + p2 * (q0 * r1 + q1 * r0)) * x = 0 := by
 have e : (q1 * r2 + q2 * r1) * (p0 * x + q0 * y + r0 * z) + (q0 * r2 + q2 * r0) * (p1 * x + q1 * y + r1 * z) + (q0 * r1 + q1 * r0) * (p2 * x + q2 * y + r2 * z) = 0 := by
   rw [h0, h1, h2, G.mul_zero, G.mul_zero, G.mul_zero]; rfl
 have e2 : (q1 * r2 + q2 * r1) * (p0 * x + q0 * y + r0 * z) + (q0 * r2 + q2 * r0) * (p1 * x + q1 * y + r1 * z) + (q0 * r1 + q1 * r0) * (p2 * x + q2 * y + r2 * z) =
     (p0 * (q1 * r2 + q2 * r1) + p1 * (q0 * r2 + q2 * r0) + p2 * (q0 * r1 + q1 * r0)) * x
     + ((q0 * q1 * r2 * y + q0 * q1 * r2 * y) + (q0 * q2 * r1 * y + q0 * q2 * r1 * y) + (q1 * q2 * r0 * y + q1 * q2 * r0 * y))
     + ((q1 * r0 * r2 * z + q1 * r0 * r2 * z) + (q2 * r0 * r1 * z + q2 * r0 * r1 * z) + (q0 * r1 * r2 * z + q0 * r1 * r2 * z)) := by
   simp only [G.mul_add, G.add_mul]
   ac_rfl
 rw [e2] at e
 simpa [G.add_self, G.add_zero] using e
theorem mds1 {n a b c : Nat} (hn : n ≤ 13) (ha : a < n + 3) (hb : b < n + 3) (hc : c < n + 3) (hab : a ≠ b) (hac : a ≠ c) (hbc : b ≠ c) {x y z : G} (h : ∀ q, q < 3 → col n q a * x + col n q b * y + col n q c * z = 0) : x = 0 := by
 have := cramer (h 0 (by omega)) (h 1 (by omega)) (h 2 (by omega))
 rcases mul_eq_zero_iff.1 this with h | h
 · exact absurd h (det_ne hn ha hb hc hab hac hbc)
 · exact h
theorem mdsB {n a b c : Nat} (hn : n ≤ 13) (ha : a < n + 3) (hb : b < n + 3) (hc : c < n + 3) (hab : a ≠ b) (hac : a ≠ c) (hbc : b ≠ c) {x y z : Blk} (h : ∀ q, q < 3 → col n q a * x + col n q b * y + col n q c * z = 0) : x = 0 :=
 Blk.ext_at fun k hk => by
   rw [Blk.zero_at hk]
   refine mds1 hn ha hb hc hab hac hbc (x := x.at k) (y := y.at k) (z := z.at k) fun q hq => ?_
   have := congrArg (fun b : Blk => b.at k) (h q hq)
   simpa [Blk.add_at _ _ hk, Blk.mul_at _ _ hk, Blk.zero_at hk] using this
theorem mds {n a b c : Nat} (hn : n ≤ 13) (ha : a < n + 3) (hb : b < n + 3) (hc : c < n + 3) (hab : a ≠ b) (hac : a ≠ c) (hbc : b ≠ c) {f : Nat → Blk} (h0 : ∀ k, k < n + 3 → k ≠ a → k ≠ b → k ≠ c → f k = 0) (h : ∀ q, q < 3 → syn n f q = 0) : ∀ k, k < n + 3 → f k = 0 := by
 have key : ∀ q, q < 3 → col n q a * f a + col n q b * f b + col n q c * f c = 0 := fun q hq => by
   have := h q hq
   rw [syn, bsum_take ha, bsum_take hb, bsum_take hc, bsum_zero] at this
   · rw [if_neg (fun h => hab h.symm), if_neg (fun h => hbc h.symm), if_neg (fun h => hac h.symm)] at this
     rw [Blk.add_zero, ← Blk.add_assoc] at this
     exact this
   · intro k hk
     by_cases h1 : k = c
     · rw [if_pos h1]
     · by_cases h2 : k = b
       · rw [if_neg h1, if_pos h2]
       · by_cases h3 : k = a
         · rw [if_neg h1, if_neg h2, if_pos h3]
         · rw [if_neg h1, if_neg h2, if_neg h3, h0 k hk h3 h2 h1, Blk.mul_zero]
 have hA := mdsB hn ha hb hc hab hac hbc key
 have hB := mdsB hn hb ha hc (fun h => hab h.symm) hbc hac (x := f b) (y := f a) (z := f c) fun q hq => by rw [Blk.add_comm (col n q b * f b)]; exact key q hq
 have hC := mdsB hn hc ha hb (fun h => hac h.symm) (fun h => hbc h.symm) hab (x := f c) (y := f a) (z := f b) fun q hq => by rw [Blk.add_assoc, Blk.add_comm]; exact key q hq
 intro k hk
 by_cases h1 : k = a
 · rw [h1]; exact hA
 by_cases h2 : k = b
 · rw [h2]; exact hB
 by_cases h3 : k = c
 · rw [h3]; exact hC
 exact h0 k hk h1 h2 h3
theorem three {m : Nat} (h : 3 ≤ m) {a b c : Nat} (ha : a < m) (hb : b < m) (hc : c < m) : ∃ x y z, x < m ∧ y < m ∧ z < m ∧ x ≠ y ∧ x ≠ z ∧ y ≠ z ∧ ∀ k, k ≠ x → k ≠ y → k ≠ z → k ≠ a ∧ k ≠ b ∧ k ≠ c := by
 have two : ∀ p q, p < m → q < m → p ≠ q → ∃ z, z < m ∧ p ≠ z ∧ q ≠ z := fun p q hp hq hpq => by
   by_cases h0 : p ≠ 0 ∧ q ≠ 0
   · exact ⟨0, by omega, h0.1, h0.2⟩
   by_cases h1 : p ≠ 1 ∧ q ≠ 1
   · exact ⟨1, by omega, h1.1, h1.2⟩
   · exact ⟨2, by omega, by omega, by omega⟩
 by_cases hab : a = b
 · by_cases hac : a = c
   · obtain ⟨y, hy, h1⟩ : ∃ y, y < m ∧ a ≠ y := by
       by_cases h0 : a = 0
       · exact ⟨1, by omega, by omega⟩
       · exact ⟨0, by omega, h0⟩
     obtain ⟨z, hz, h2, h3⟩ := two a y ha hy h1
     exact ⟨a, y, z, ha, hy, hz, h1, h2, h3, fun k h1 h2 h3 => ⟨h1, by omega, by omega⟩⟩
   · obtain ⟨z, hz, h2, h3⟩ := two a c ha hc hac
     exact ⟨a, c, z, ha, hc, hz, hac, h2, h3, fun k h1 h2 h3 => ⟨h1, by omega, h2⟩⟩
 · by_cases hc1 : c = a ∨ c = b
   · obtain ⟨z, hz, h2, h3⟩ := two a b ha hb hab
     exact ⟨a, b, z, ha, hb, hz, hab, h2, h3, fun k h1 h2 h3 => ⟨h1, h2, by omega⟩⟩
   · exact ⟨a, b, c, ha, hb, hc, hab, by omega, by omega, fun k h1 h2 h3 => ⟨h1, h2, h3⟩⟩
theorem near_groups {p q : List Blk} (h1 : 4 ≤ p.length) (h2 : p.length ≤ 16) (hl : q.length = p.length) (hp : isGroup p = true) (hq : isGroup q = true) {a b c : Nat} (ha : a < p.length) (hb : b < p.length) (hc : c < p.length) (h : ∀ k, k < p.length → k ≠ a → k ≠ b → k ≠ c → nth q k = nth p k) : q = p := by
 obtain ⟨n, hn⟩ : ∃ n, p.length = n + 3 := ⟨p.length - 3, by omega⟩
 obtain ⟨x, y, z, hx, hy, hz, hxy, hxz, hyz, hk⟩ := three (m := p.length) (by omega) ha hb hc
 rw [hn] at hx hy hz
 have hs := mds (n := n) (f := fun k => nth q k + nth p k) (by omega) hx hy hz hxy hxz hyz (fun k hkn h1 h2 h3 => by
   obtain ⟨e1, e2, e3⟩ := hk k h1 h2 h3
   show nth q k + nth p k = 0
   rw [h k (by omega) e1 e2 e3, Blk.add_self]) (fun j hj => by
     rw [syn_add, (isGroup_syn (by omega) (by omega) (by omega)).1 hq j hj, (isGroup_syn hn h1 h2).1 hp j hj, Blk.add_zero])
 exact list_ext_nth hl fun k hk => Blk.add_cancel (hs k (by omega))
theorem isGroup_enc {ds : List Blk} (h1 : 1 ≤ ds.length) (h2 : ds.length ≤ 13) : isGroup (ds ++ enc ds) = true := by
 have hl : (ds ++ enc ds).length = ds.length + 3 := by rw [List.length_append]; rfl
 rw [isGroup_at hl (by omega) (by omega), List.take_left, List.drop_left]
 exact decide_eq_true rfl
end Go.Proofs.YtdcijljfgcjelaaGreat
namespace Go.Proofs.YtdcijljfgcjelaaGreat
set_option maxRecDepth 20000
open Go.RowKit
attribute [local irreducible] Calls
def comb (ws : List G) (ds : List Blk) (n : Nat) : Blk := bsum n fun k => nth ws k * nth ds k
theorem comb_succ (ws : List G) (ds : List Blk) (n : Nat) : comb ws ds (n + 1) = comb ws ds n + nth ws n * nth ds n := rfl
set_option maxHeartbeats 2000000 in
theorem combine_e (vw vb : Value) (ws : List G) (ds : List Blk) (w : World) (h1 : Sl w 1 vw ws.length (bvs ws)) (h2 : Sl w 8 vb ds.length (kvs ds)) (hl : ws.length = ds.length) (hn : ws.length ≤ 1000) :
   Calls Tryz.prog 42 #[vw, vb] w fun e w' => e = .returned (.tuple #[kv (comb ws ds ws.length), iv 0]) ∧ Below w.heap.size w w' := by
 obtain ⟨A, c, rfl, hcc, hm, hs⟩ := h1.open_
 obtain ⟨B, d, rfl, hcd, hmd, hsb⟩ := h2.open_
 refine calls_wcG (args := [.slice A ws.length c, .slice B ds.length d]) [.cell 4 41, .tmp 5] [] Tryz.func42 rfl Tryz.ntmps42 rfl rfl (H.refl w) ?_
 refine uS rfl fun K hK => ?_
 refine WL.want rfl (WL1.alloc rfl rfl rfl rfl (fun b4 => ?_))
 refine jm rfl rfl ?_
 refine wN hK ?_; clear hK
 refine uS rfl fun K hK => ?_
 refine WL.want rfl (WL1.alloc rfl rfl rfl rfl (fun b6 => ?_))
 refine wN hK ?_; clear hK
 refine WC.seq fun K hK => ?_
 refine uS rfl fun K hK => ?_
 refine jm rfl rfl ?_
 refine jn rfl rfl rfl ?_
 refine jm rfl rfl ?_
 refine jn rfl rfl rfl ?_
 refine jf rfl rfl (by omega) ?_
 refine wN hK ?_; clear hK
 refine uF rfl rfl ?_
 refine WC.skip ?_
 (refine hK _ _ ?_; clear hK)
 refine WC.seq fun K hK => ?_
 refine uS rfl fun K hK => ?_
 refine jm rfl rfl ?_
 refine jn rfl rfl rfl ?_
 refine jm rfl rfl ?_
 refine wN hK ?_; clear hK
 refine WC.block ?_
 refine WC.loop (2199022994304) (fun i : Nat => [(18, iv i)]) (fun i => [pt b6 41 (comb ws ds i).cells, pt b4 41 z8]) (fun i => i ≤ ds.length) (fun i => ds.length - i) 0 ⟨rfl, trivial⟩ (.refl _) (by omega) ?_
 intro i U hi
 obtain ⟨a, ha⟩ : ∃ a, a = comb ws ds i := ⟨_, rfl⟩
 by_cases hlt : i < ds.length
 · have hgd : ∀ j u, (nth ds i).cells[j]? = some u → (kvs ds)[i * 8 + j]? = some u := fun j u h => flat_row blk8 (by omega) j u h
   obtain ⟨b, hb⟩ : ∃ b, b = nth ds i := ⟨_, rfl⟩
   have hst : comb ws ds (i + 1) = Blk.of fun j => a.at j + nth ws i * b.at j := by rw [comb_succ, ← ha, ← hb]; rfl
   rw [← hb] at hgd
   rw [← ha]
   refine uS rfl fun K hK => ?_
   refine jt rfl rfl (by omega) ?_
   refine wN hK ?_; clear hK
   refine WC.seq fun K hK => ?_
   refine uT rfl rfl ?_
   refine WC.skip ?_
   (refine hK _ _ ?_; clear hK)
   refine WC.seq fun K hK => ?_
   refine WC.block ?_
   refine uS rfl fun K hK => ?_
   refine jm rfl rfl ?_
   refine wG rfl rfl (g_indexAddr (sz := 8) rfl (.mk rfl rfl) (.mk rfl rfl) rfl rfl rfl (by omega) (fun _ _ => sl_some hsb (by omega))) ?_
   refine wG rfl rfl (g_loadA rfl (.mk rfl rfl) rfl (sz8 _) (rdr_sl hsb (by omega) hgd)) ?_
   refine WL.want rfl (WL1.alloc rfl rfl rfl rfl (fun b8 => ?_))
   refine jm rfl rfl ?_
   refine WL.want rfl (WL1.storeAll rfl rfl (.mk rfl rfl) (.mk rfl rfl) (sz8 _) (Blk.one _) (by first | rfl | (simp [Blk.len]; done)) (.head) ?_)
   refine wN hK ?_; clear hK
   refine uS rfl fun K hK => ?_
   refine jm rfl rfl ?_
   refine wN hK ?_; clear hK
   refine WC.block ?_
   refine WC.loop (1099503239680) (fun k : Nat => [(23, iv k)]) (fun k => [pt b8 41 b.cells, pt b6 41 (mix k (fun j => a.at j + nth ws i * b.at j) (fun j => a.at j)).cells, pt b4 41 z8]) (fun k => k ≤ 8) (fun k => 8 - k) 0 ⟨rfl, trivial⟩ (by rw [← mix_start]; exact .refl _) (by omega) ?_
   intro k V hk
   by_cases hlt2 : k < 8
   · have hml := (mix k (fun j => a.at j + nth ws i * b.at j) (fun j => a.at j)).len
     refine uS rfl fun K hK => ?_
     refine jt rfl rfl (by omega) ?_
     refine wN hK ?_; clear hK
     refine WC.seq fun K hK => ?_
     refine uT rfl rfl ?_
     refine WC.skip ?_
     (refine hK _ _ ?_; clear hK)
     refine WC.seq fun K hK => ?_
     refine WC.block ?_
     refine uS rfl fun K hK => ?_
     iterate 2 refine jm rfl rfl ?_
     refine wN hK ?_; clear hK
     refine WC.split 13 rfl (by kernel_rfl) (by decide +kernel) ?_
     refine ym rfl rfl ?_
     refine WQ.want rfl (WQ1.give rfl (g_indexAddrA (sz := 1) rfl (.mk rfl rfl) (.mk rfl rfl) rfl rfl rfl (by omega) (fun _ _ => rfl)) ?_)
     refine yl rfl rfl rfl (rd_pt (.tail _ (.head _)) (ix (mix_get hlt2 (by omega)) (by omega))) ?_
     iterate 2 refine ym rfl rfl ?_
     refine WQ.want rfl (WQ1.give rfl (g_indexAddr (sz := 1) rfl (.mk rfl rfl) (.mk rfl rfl) rfl rfl rfl (by omega) (fun _ _ => sl_some hs (by omega))) ?_)
     refine yl rfl rfl rfl (rd_sl hs (get1 (by omega))) ?_
     refine ym rfl rfl ?_
     refine WQ.want rfl (WQ1.give rfl (g_indexAddrA (sz := 1) rfl (.mk rfl rfl) (.mk rfl rfl) rfl rfl rfl (by omega) (fun _ _ => rfl)) ?_)
     refine yl rfl rfl rfl (rd_pt (.head _) (ix (b.get hlt2) (by omega))) ?_
     refine WQ.want rfl (WQ1.callP rfl rfl rfl (.cons (.mk (v := .int _ _) rfl rfl) (.cons (.mk (v := .int _ _) rfl rfl) .nil)) (fun w hw => Calls.belowS (mul_c (nth ws i) (b.at k) w)) ?_)
     refine WQ.want rfl (WQ1.give rfl (g_xor (k := .u8) rfl (.mk rfl rfl) (.mk rfl rfl) (xor_u8 _ _)) ?_)
     refine WQ.want rfl (WQ1.give rfl (g_indexAddrA (sz := 1) rfl (.mk rfl rfl) (.mk rfl rfl) rfl rfl rfl (by omega) (fun _ _ => rfl)) ?_)
     refine WQ.nil ?_
     refine WY.one 13 (by decide +kernel) rfl rfl ?_
     refine WL1.store1 rfl rfl (.mk rfl rfl) (.mk (v := .int _ _) rfl rfl) rfl rfl (by first | omega | (simp; done) | (simp; omega)) (.tail (.head)) ?_
     refine WL.nil ?_
     refine WY.done (by decide +kernel) ?_
     (refine hK _ _ ?_; clear hK)
     refine WC.region rfl ?_
     refine ji rfl rfl (by omega) ?_
     refine jm rfl rfl ?_
     refine WL.nil ?_
     exact ⟨k + 1, (by repeat (first | with_reducible exact .refl _ _ | refine .set rfl ?_ | refine .put rfl ?_ | refine .sets rfl ?_ | refine .hav rfl ?_ | exact .refl _ _)), ⟨rfl, trivial⟩, subK (sub1 (mix_put hlt2 (by omega) rfl) (.refl _)), by omega, by omega⟩
   · obtain rfl : k = 8 := by omega
     refine uS rfl fun K hK => ?_
     refine jf rfl rfl (by omega) ?_
     refine wN hK ?_; clear hK
     refine WC.seq fun K hK => ?_
     refine uF rfl rfl ?_
     refine WC.exit ?_
     (clear hK; refine hK _ _ ?_; clear hK)
     refine WC.region rfl ?_
     refine ji rfl rfl (by omega) ?_
     refine jm rfl rfl ?_
     refine WL.nil ?_
     exact ⟨i + 1, (by repeat (first | with_reducible exact .refl _ _ | refine .set rfl ?_ | refine .put rfl ?_ | refine .sets rfl ?_ | refine .hav rfl ?_ | exact .refl _ _)), ⟨rfl, trivial⟩, by rw [hst, mix_all]; exact .cons _ (.refl _), by omega, by omega⟩
 · obtain rfl : i = ds.length := by omega
   rw [← ha]
   have hae : a = comb ws ds ws.length := by rw [ha, hl]
   have hcl := a.len
   refine uS rfl fun K hK => ?_
   refine jf rfl rfl (by omega) ?_
   refine wN hK ?_; clear hK
   refine WC.seq fun K hK => ?_
   refine uF rfl rfl ?_
   refine WC.exit ?_
   (clear hK; refine hK _ _ ?_; clear hK)
   refine uS rfl fun K hK => ?_
   refine wG rfl rfl (g_loadA rfl (.mk rfl rfl) rfl (sz8 _) (rdr_pt (.head _) (fun j u h => by simpa using h))) ?_
   refine WL.want rfl (WL1.storeAll rfl rfl (.mk rfl rfl) (.mk rfl rfl) (sz8 _) (Blk.one _) (by first | rfl | (simp [Blk.len]; done)) (.tail (.head)) ?_)
   refine jm rfl rfl ?_
   refine wN hK ?_; clear hK
   refine WC.ret ?_
   exact ⟨_, .cell rfl rfl rfl (sz8 _) (.tail _ (.head _)) (.tmp rfl rfl .nil), fun w' hw' => ⟨by rw [← hae]; rfl, hw'.1⟩⟩
end Go.Proofs.YtdcijljfgcjelaaGreat
namespace Go.Proofs.YtdcijljfgcjelaaGreat
set_option maxRecDepth 20000
open Go.RowKit
theorem bsum_at {t : Nat} (ht : t < 8) : ∀ (n : Nat) (f : Nat → Blk), (bsum n f).at t = gsum n fun k => (f k).at t
 | 0, _ => Blk.zero_at ht
 | n + 1, f => by
   show (bsum n f + f n).at t = gsum n _ + _
   rw [Blk.add_at _ _ ht, bsum_at ht n f]
theorem mulsum_at {t : Nat} (ht : t < 8) (n : Nat) (c : Nat → G) (f : Nat → Blk) : (bsum n fun k => c k * f k).at t = gsum n fun k => c k * (f k).at t := by
 rw [bsum_at ht]
 exact gsum_congr fun k _ => Blk.mul_at _ _ ht
def genM (n : Nat) : List (List G) := idM n ++ matx n
theorem genM_row {n i : Nat} (hi : i < n + 3) : nth (genM n) i = if i < n then (List.range n).map fun k => dlt i k else coefs n (i - n) := by
 have hl : (idM n).length = n := by simp [idM]
 unfold genM
 rw [nth_app, hl]
 by_cases h : i < n
 · rw [if_pos h, if_pos h]; exact nth_range _ h
 · rw [if_neg h, if_neg h]; exact nth_range _ (by omega)
theorem genM_rowlen {n i : Nat} (hi : i < n + 3) : (nth (genM n) i).length = n := by
 rw [genM_row hi]
 by_cases h : i < n
 · rw [if_pos h]; simp
 · rw [if_neg h]; exact coefs_len n _
def gen (n i j : Nat) : G := if i < n then dlt i j else gpow 2 (j * (i - n))
theorem genM_el {n i j : Nat} (hi : i < n + 3) (hj : j < n) : el (genM n) i j = gen n i j := by
 unfold el gen
 rw [genM_row hi]
 by_cases h : i < n
 · rw [if_pos h, if_pos h]; exact nth_range _ hj
 · rw [if_neg h, if_neg h]; exact nth_range _ hj
theorem grp_gen (ds : List Blk) {i : Nat} (hi : i < ds.length + 3) : nth (ds ++ enc ds) i = bsum ds.length fun j => gen ds.length i j * nth ds j := by
 rw [nth_app]
 by_cases h : i < ds.length
 · rw [if_pos h]
   refine Blk.ext_at fun t ht => ?_
   rw [mulsum_at ht, gsum_congr (g := fun j => dlt i j * (nth ds j).at t) fun j _ => by unfold gen; rw [if_pos h]]
   exact (gsum_dlt h fun j => (nth ds j).at t).symm
 · rw [if_neg h, enc_nth _ (by omega), hor_bsum]
   refine bsum_congr fun j _ => ?_
   unfold gen
   rw [if_neg h, gpow_gpow, Nat.mul_comm]
theorem compl {m : Nat} : ∀ l : List Nat, l.Nodup → (∀ a ∈ l, a < m) → ∃ c : List Nat, c.length + l.length = m ∧ (∀ k, k < m → k ∈ l ∨ k ∈ c) ∧ ∀ k ∈ c, k < m
 | [], _, _ => ⟨List.range m, by simp, fun k hk => .inr (by simpa using hk), fun k hk => by simpa using hk⟩
 | a :: l, hn, hl => by
   obtain ⟨h1, h2⟩ := List.nodup_cons.1 hn
   obtain ⟨c, c1, c2, c3⟩ := compl l h2 fun b hb => hl b (by simp [hb])
   have hac : a ∈ c := (c2 a (hl a (by simp))).resolve_left h1
   refine ⟨c.erase a, ?_, fun k hk => ?_, fun k hk => c3 k (List.mem_of_mem_erase hk)⟩
   · have := List.length_erase_of_mem hac
     have h0 : 0 < c.length := List.length_pos_of_mem hac
     rw [List.length_cons]; omega
   · by_cases e : k = a
     · exact .inl (by simp [e])
     · rcases c2 k hk with h | h
       · exact .inl (by simp [h])
       · exact .inr ((List.mem_erase_of_ne e).2 h)
structure Helps (n : Nat) (from_ : List Nat) : Prop where
 len : from_.length = n
 lt : ∀ i, i < n → nth from_ i < n + 3
 nd : from_.Nodup
theorem Helps.three {n : Nat} {fr : List Nat} (h : Helps n fr) : ∃ a b c, a < n + 3 ∧ b < n + 3 ∧ c < n + 3 ∧ ∀ k, k < n + 3 → k ≠ a → k ≠ b → k ≠ c → ∃ i, i < n ∧ nth fr i = k := by
 obtain ⟨c, c1, c2, c3⟩ := compl (m := n + 3) fr h.nd fun a ha => by
   obtain ⟨i, hi, rfl⟩ := List.getElem_of_mem ha
   have := h.lt i (by rw [← h.len]; exact hi)
   rwa [nth_eq hi] at this
 have hl := h.len
 match c, (show c.length = 3 by omega) with
 | [x, y, z], _ =>
   refine ⟨x, y, z, c3 x (by simp), c3 y (by simp), c3 z (by simp), fun k hk k1 k2 k3 => ?_⟩
   rcases c2 k hk with h' | h'
   · obtain ⟨i, hi, e⟩ := List.getElem_of_mem h'
     exact ⟨i, by omega, by rw [nth_eq hi]; exact e⟩
   · simp at h'; rcases h' with rfl | rfl | rfl <;> contradiction
theorem zero_group {n : Nat} (h1 : 1 ≤ n) (h2 : n ≤ 13) : isGroup (List.replicate (n + 3) (0 : Blk)) = true := by
 have e : List.replicate (n + 3) (0 : Blk) = List.replicate n 0 ++ enc (List.replicate n 0) := list_ext_nth (by simp [enc_len]) fun k hk => by
   have hk' : k < n + 3 := by simpa using hk
   have hz : ∀ m j, nth (List.replicate m (0 : Blk)) j = 0 ∨ m ≤ j := fun m j => by
     by_cases hj : j < m
     · left; rw [nth_eq (by simpa using hj)]; simp
     · right; omega
   rw [grp_gen _ (by simpa using hk'), (hz (n + 3) k).resolve_right (by omega)]
   refine (bsum_zero fun j hj => ?_).symm
   rw [(hz n j).resolve_right (by simpa using Nat.not_le_of_lt hj), Blk.mul_zero]
 rw [e]
 exact isGroup_enc (by simpa using h1) (by simpa using h2)
theorem Helps.inj {n : Nat} {fr : List Nat} (h : Helps n fr) (h1 : 1 ≤ n) (h2 : n ≤ 13) {x : Nat → G} (hx : ∀ i, i < n → gsum n (fun j => gen n (nth fr i) j * x j) = 0) : ∀ j, j < n → x j = 0 := fun j hj => by
 obtain ⟨ds, hds⟩ : ∃ ds : List Blk, ds = (List.range n).map fun j => Blk.of fun _ => x j := ⟨_, rfl⟩
 have hl : ds.length = n := by rw [hds]; simp
 have hnd : ∀ j, j < n → nth ds j = Blk.of fun _ => x j := fun j hj => by rw [hds]; exact nth_range _ hj
 have hg : isGroup (ds ++ enc ds) = true := isGroup_enc (by omega) (by omega)
 obtain ⟨a, b, c, ha, hb, hc, habc⟩ := h.three
 have hrl : (List.replicate (n + 3) (0 : Blk)).length = n + 3 := by simp
 have hz : ∀ j, j < n + 3 → nth (List.replicate (n + 3) (0 : Blk)) j = 0 := fun j hj => by rw [nth_eq (by simpa using hj)]; simp
 have key := near_groups (p := List.replicate (n + 3) (0 : Blk)) (q := ds ++ enc ds) (by omega) (by omega) (by rw [hrl, List.length_append, enc_len, hl]) (zero_group h1 h2) hg (a := a) (b := b) (c := c) (by omega) (by omega) (by omega) fun k hk k1 k2 k3 => by
   rw [hrl] at hk
   obtain ⟨i, hi, rfl⟩ := habc k hk k1 k2 k3
   rw [hz _ hk, grp_gen _ (by omega), hl]
   refine Blk.ext_at fun t ht => ?_
   rw [mulsum_at ht, Blk.zero_at ht, ← hx i hi]
   exact gsum_congr fun j hj => by rw [hnd j hj, Blk.of_at _ ht]
 have e : nth (ds ++ enc ds) j = nth (List.replicate (n + 3) (0 : Blk)) j := by rw [key]
 rw [hz j (by omega), nth_app, if_pos (by omega), hnd j hj] at e
 have : (Blk.of fun _ => x j).at 0 = (0 : Blk).at 0 := by rw [e]
 rwa [Blk.of_at _ (by omega), Blk.zero_at (by omega)] at this
theorem rows_shp {n : Nat} {fr : List Nat} (h : Helps n fr) : Shp (rowsM (genM n) fr) n n :=
 ⟨by rw [rowsM_len, h.len], fun i hi => by rw [rowsM_at (by rw [h.len]; exact hi)]; exact genM_rowlen (h.lt i hi)⟩
theorem rows_el {n : Nat} {fr : List Nat} (h : Helps n fr) {i j : Nat} (hi : i < n) (hj : j < n) : el (rowsM (genM n) fr) i j = gen n (nth fr i) j := by
 rw [← genM_el (h.lt i hi) hj]
 unfold el
 rw [rowsM_at (by rw [h.len]; exact hi)]
theorem Helps.inv {n : Nat} {fr : List Nat} (h : Helps n fr) (h1 : 1 ≤ n) (h2 : n ≤ 13) : ∃ v, invM (rowsM (genM n) fr) = some v := by
 cases e : invM (rowsM (genM n) fr) with
 | some v => exact ⟨v, rfl⟩
 | none =>
   obtain ⟨x, ⟨k, hk, hx⟩, hs⟩ := invM_none (rows_shp h) e
   exact absurd (h.inj h1 h2 (x := x) (fun i hi => by rw [← hs i hi]; exact gsum_congr fun j hj => by rw [rows_el h hi hj]) k hk) hx
def invOf (n : Nat) (fr : List Nat) : List (List G) := (invM (rowsM (genM n) fr)).getD []
def wts (n : Nat) (fr : List Nat) (to : Nat) : List G := (List.range n).map fun k => gsum n fun j => gen n to j * el (invOf n fr) j k
theorem wts_len (n : Nat) (fr : List Nat) (to : Nat) : (wts n fr to).length = n := by simp [wts]
theorem Helps.inv_eq {n : Nat} {fr : List Nat} (h : Helps n fr) (h1 : 1 ≤ n) (h2 : n ≤ 13) : invM (rowsM (genM n) fr) = some (invOf n fr) := by
 obtain ⟨v, hv⟩ := h.inv h1 h2
 rw [invOf, hv]; rfl
end Go.Proofs.YtdcijljfgcjelaaGreat
namespace Go.Proofs.YtdcijljfgcjelaaGreat
set_option maxRecDepth 20000
open Go.RowKit
def eqM (n : Nat) (fr : List Nat) (to : Nat) : List (List G) := (List.range n).map fun i => (List.range n).map (fun k => gen n (nth fr k) i) ++ [gen n to i]
structure RInv (W : Nat → G) (a : List (List G)) (n c : Nat) : Prop where
 shp : Shp a n (n + 1)
 sol : ∀ i, i < n → gsum n (fun k => el a i k * W k) = el a i n
 ker : ∀ x : Nat → G, (∀ i, i < n → gsum n (fun j => el a i j * x j) = 0) → ∀ j, j < n → x j = 0
 one : ∀ i, i < n → ∀ j, j < c → el a i j = dlt i j
variable {W : Nat → G} {a : List (List G)} {n c q : Nat}
def rstp (a : List (List G)) (n c q : Nat) : List (List G) := elm (nrm (swp a c (c + q)) (n + 1) c) n c n
end Go.Proofs.YtdcijljfgcjelaaGreat
namespace Go.Proofs.YtdcijljfgcjelaaGreat
set_option maxRecDepth 20000
open Go.RowKit
attribute [local irreducible] Calls
def synP (ps : List Blk) (m : Nat) : List Blk := (List.range 3).map fun j => if j < m then nth (enc (ps.take (ps.length - 3))) j + nth ps (ps.length - 3 + j) else nth (enc (ps.take (ps.length - 3))) j
def synL (ps : List Blk) : List Blk := synP ps 3
end Go.Proofs.YtdcijljfgcjelaaGreat
namespace Go.Proofs.YtdcijljfgcjelaaGreat
set_option maxRecDepth 20000
open Go.RowKit
def ivs (l : List Int) : List Value := l.map (Value.int .i64)
theorem ivs_get {l : List Int} {k : Nat} (h : k < l.length) : (ivs l)[k * 1]? = some (iv (nth l k)) := by unfold ivs; exact get1 h
def ldv (ld : List Nat) : List Value := ld.map fun k : Nat => iv k
theorem ldv_len (ld : List Nat) : (ldv ld).length = ld.length := by simp [ldv]
theorem ldv_get {ld : List Nat} {k : Nat} (h : k < ld.length) : (ldv ld)[k * 1]? = some (iv ((nth ld k : Nat) : Int)) := by unfold ldv; exact get1 (f := fun k : Nat => iv k) h
def bls (l : List Bool) : List Value := l.map Value.bool
theorem bls_get {l : List Bool} {k : Nat} (h : k < l.length) : (bls l)[k * 1]? = some (.bool (nth l k)) := by unfold bls; exact get1 h
theorem bls_len (l : List Bool) : (bls l).length = l.length := by simp [bls]
theorem elI : Elem Tryz.prog 29 3 (.int .i64 0) 1 8 := ⟨rfl, rfl, rfl, by omega⟩
theorem elBo : Elem Tryz.prog 36 4 (.bool false) 1 1 := ⟨rfl, rfl, rfl, by omega⟩
theorem ldv_snoc (l : List Nat) (i : Nat) : ldv l ++ [iv i] = ldv (l ++ [i]) := by unfold ldv; rw [List.map_append]; rfl
def gn (n : Nat) (h : n < 256 := by omega) : G := ⟨n, h⟩
def lb (x : G) : Blk := ⟨[x, 0, 0, 0, 0, 0, 0, 0], rfl⟩
end Go.Proofs.YtdcijljfgcjelaaGreat
namespace Go.Proofs.YtdcijljfgcjelaaGreat
set_option maxRecDepth 20000
open Go.RowKit
attribute [local irreducible] Calls
theorem ldv_one (ld : List Nat) : ∀ u ∈ ldv ld, u.oneCell' = true := by intro u hu; simp only [ldv, List.mem_map] at hu; obtain ⟨x, _, rfl⟩ := hu; rfl
theorem Imp.rows_join (r1 r2 : List Row) (L : List Asrt) : Imp (rowsA r1 :: rowsA r2 :: L) (rowsA (r1 ++ r2) :: L) := by
 refine Imp.trans (Imp.unbun _ _) ?_
 refine Imp.trans (Imp.perm (M := rowsA r2 :: (r1.map Row.own ++ L)) List.perm_middle) ?_
 refine Imp.trans (Imp.unbun _ _) ?_
 refine Imp.trans (Imp.perm (M := (r1 ++ r2).map Row.own ++ L) ?_) (Imp.bun _ _)
 rw [List.map_append, ← List.append_assoc]
 exact List.perm_append_comm.append_right _
theorem matrix_m (n : Nat) (w : World) (h1 : 1 ≤ n) (h2 : n ≤ 13) : Calls Tryz.prog 135 #[iv n] w fun e w' => ∃ v' M, e = .returned v' ∧ H w M w' ∧
   ∃ A c rs, v' = .tuple #[.slice A rs.length c, iv 0] ∧ M = matM A c rs ∧ els rs = matx n ∧ rs.length = 3 :=
 (matrix_n n w h1 h2).mono fun e w' ⟨v', M, he, hM, A, c, rs, hv, hM2, hr, hl⟩ => ⟨v', matM A c rs, he, by
   subst hM2
   refine Imp.h (Imp.cons ?_) hM
   have := Imp.rows_of rs []
   rwa [List.append_nil] at this, A, c, rs, by rw [hl]; exact hv, rfl, hr, hl⟩
set_option maxHeartbeats 1000000 in
theorem generator_n (m n : Nat) (w : World) (hm : m = n + 3) (h1 : 1 ≤ n) (h2 : n ≤ 13) : Calls Tryz.prog 90 #[iv m] w fun e w' => ∃ v' M, e = .returned v' ∧ H w M w' ∧
   ∃ A c rs, v' = .slice A rs.length c ∧ M = matM A c rs ∧ els rs = genM n ∧ rs.length = m := by
 have hsub : IntKind.i64.wrap ((m : Int) - 3) = (n : Int) := by rw [IntWalk.i64_in _ (by omega)]; omega
 refine calls_wc (args := [iv m]) [2] [] Tryz.func90 rfl Tryz.ntmps90 rfl rfl rfl rfl (H.refl w) ?_
 refine uS rfl fun K hK => ?_
 refine jm rfl rfl ?_
 refine wN hK ?_; clear hK
 refine uS rfl fun K hK => ?_
 refine jm rfl rfl ?_
 refine wG rfl rfl (g_sub rfl (.mk rfl rfl) (.mk rfl rfl) hsub) ?_
 (refine WL.want rfl (WL1.callN rfl rfl rfl (.cons (.mk (v := .int _ _) rfl rfl) .nil) (fun w hw => identity_n n w (by omega) (by omega)) ?_); rintro _ _ ⟨A1, c1, r1, rfl, rfl, hr1, hl1⟩)
 iterate 5 refine jm rfl rfl ?_
 refine wN hK ?_; clear hK
 refine uS rfl fun K hK => ?_
 refine jm rfl rfl ?_
 refine wG rfl rfl (g_sub rfl (.mk rfl rfl) (.mk rfl rfl) hsub) ?_
 (refine WL.want rfl (WL1.callN rfl rfl rfl (.cons (.mk (v := .int _ _) rfl rfl) .nil) (fun w hw => matrix_m n w h1 h2) ?_); rintro _ _ ⟨A2, c2, r2, rfl, rfl, hr2, hl2⟩)
 iterate 5 refine jm rfl rfl ?_
 refine wN hK ?_; clear hK
 refine uS rfl fun K hK => ?_
 iterate 2 refine jm rfl rfl ?_
 refine WL.want rfl (WL1.append elR rfl rfl (.mk rfl rfl) (.mk rfl rfl) (.tail (.tail (.head))) (fun w hw => Sl.of_vec hw (.head _)) (rowv_one _) (by unfold maxLen; omega) (by omega) (fun A21 c21 => ?_))
 refine jm rfl rfl ?_
 refine wN hK ?_; clear hK
 refine WC.ret ?_
 have hel : els (r1 ++ r2) = genM n := by unfold els at *; rw [List.map_append, hr1, hr2]; rfl
 have hln : (r1 ++ r2).length = m := by rw [List.length_append, hl1, hl2, hm]
 refine fun w' hw' => ⟨_, matM A21 c21 (r1 ++ r2), rfl, ?_, A21, c21, r1 ++ r2, by rw [List.length_append]; rfl, rfl, hel, hln⟩
 refine Imp.h ?_ hw'
 rw [matM, List.length_append, List.map_append]
 refine Imp.cons ?_
 refine Imp.trans (M := rowsA r1 :: rowsA r2 :: []) ?_ (Imp.rows_join r1 r2 [])
 exact Imp.pick (by repeat constructor) (Imp.pick (by repeat constructor) (Imp.nil _))
set_option maxHeartbeats 1000000 in
theorem possible_i (z : Int) (w : World) : Calls Tryz.prog 39 #[iv z] w fun e w' => e = .returned (.bool (decide (4 ≤ z ∧ z ≤ 16))) ∧ Below w.heap.size w w' := by
 by_cases h1 : 3 < z
 · by_cases h2 : z ≤ 16
   · refine calls_wc (args := [iv z]) [2] [] Tryz.func39 rfl Tryz.ntmps39 rfl rfl rfl rfl (H.refl w) ?_
     refine uS rfl fun K hK => ?_
     refine jm rfl rfl ?_
     refine wN hK ?_; clear hK
     refine uS rfl fun K hK => ?_
     refine jm rfl rfl ?_
     refine jt rfl rfl (by omega) ?_
     refine jm rfl rfl ?_
     refine qm rfl rfl ?_
     refine qt rfl rfl (by omega) ?_
     iterate 2 refine jm rfl rfl ?_
     refine wN hK ?_; clear hK
     refine WC.ret ?_
     exact fun w' hw' => ⟨by rw [decide_eq_true (show 4 ≤ z ∧ z ≤ 16 by omega)]; rfl, hw'.1⟩
   · refine calls_wc (args := [iv z]) [2] [] Tryz.func39 rfl Tryz.ntmps39 rfl rfl rfl rfl (H.refl w) ?_
     refine uS rfl fun K hK => ?_
     refine jm rfl rfl ?_
     refine wN hK ?_; clear hK
     refine uS rfl fun K hK => ?_
     refine jm rfl rfl ?_
     refine jt rfl rfl (by omega) ?_
     refine jm rfl rfl ?_
     refine qm rfl rfl ?_
     refine qf rfl rfl (by omega) ?_
     iterate 2 refine jm rfl rfl ?_
     refine wN hK ?_; clear hK
     refine WC.ret ?_
     exact fun w' hw' => ⟨by rw [decide_eq_false fun h => h2 h.2]; rfl, hw'.1⟩
 · refine calls_wc (args := [iv z]) [2] [] Tryz.func39 rfl Tryz.ntmps39 rfl rfl rfl rfl (H.refl w) ?_
   refine uS rfl fun K hK => ?_
   refine jm rfl rfl ?_
   refine wN hK ?_; clear hK
   refine uS rfl fun K hK => ?_
   refine jm rfl rfl ?_
   refine jf rfl rfl (by omega) ?_
   refine jm rfl rfl ?_
   iterate 2 refine ut rfl rfl ?_
   iterate 2 refine jm rfl rfl ?_
   refine wN hK ?_; clear hK
   refine WC.ret ?_
   exact fun w' hw' => ⟨by rw [decide_eq_false fun h => h1 (by omega)]; rfl, hw'.1⟩
structure Wfr (n : Nat) (fr : List Nat) : Prop where
 len : fr.length = n
 lt : ∀ i, i < n → nth fr i < n + 3
 inc : ∀ i, i + 1 < n → nth fr i < nth fr (i + 1)
theorem incr_lt {fr : List Nat} {n : Nat} (inc : ∀ i, i + 1 < n → nth fr i < nth fr (i + 1)) : ∀ d i, i + d + 1 < n → nth fr i < nth fr (i + d + 1)
 | 0, i, h => inc i h
 | d + 1, i, h => Nat.lt_trans (incr_lt inc d i (by omega)) (inc (i + d + 1) (by omega))
theorem Wfr.helps {n : Nat} {fr : List Nat} (h : Wfr n fr) : Helps n fr := by
 refine ⟨h.len, h.lt, ?_⟩
 rw [List.nodup_iff_pairwise_ne, List.pairwise_iff_getElem]
 intro i j hi hj hij
 have := incr_lt h.inc (j - i - 1) i (by rw [← h.len]; omega)
 rw [show i + (j - i - 1) + 1 = j from by omega, nth_eq hi, nth_eq hj] at this
 omega
theorem mul_row {n : Nat} {rs : List Row} {fr : List Nat} (h : Helps n fr) (h1 : 1 ≤ n) (h2 : n ≤ 13) (hr : els rs = genM n) (hl : rs.length = n + 3) {to : Nat} (hto : to < n + 3) : mulM (els [nth rs to]) (invOf n fr) = [wts n fr to] := by
 obtain ⟨hs, _, _⟩ := invM_some (rows_shp h) (h.inv_eq h1 h2)
 have e1 : els [nth rs to] = [nth (genM n) to] := by unfold els; rw [List.map_cons, List.map_nil, els_row hr (by omega)]
 rw [e1, mulM]
 show [mrow _ _ _ 0 _] = _
 rw [mrow, hs.1, hs.2 0 (by omega), wts]
 congr 1
 refine List.map_congr_left fun k _ => gsum_congr fun j hj => ?_
 rw [← genM_el hto hj]; rfl
set_option maxHeartbeats 4000000 in
theorem weights_n (v : Value) (m n to : Nat) (fr : List Nat) (w : World) (hv : Sl w 1 v fr.length (ldv fr)) (hm : m = n + 3) (h1 : 1 ≤ n) (h2 : n ≤ 13) (hfr : Wfr n fr) (hto : to < m) :
   Calls Tryz.prog 41 #[iv m, v, iv to] w fun e w' => ∃ v' M, e = .returned v' ∧ H w M w' ∧ ∃ A c, v' = .tuple #[.slice A n c, iv 0] ∧ M = [vec A n c 5 1 (bvs (wts n fr to))] := by
 obtain ⟨A, c, rfl, hcc, hmm, hs⟩ := hv.open_
 have hfl := hfr.len
 have hsub : IntKind.i64.wrap ((m : Int) - 3) = (n : Int) := by rw [IntWalk.i64_in _ (by omega)]; omega
 have hpos : ∀ w', Calls Tryz.prog 39 #[iv m] w' fun e w2 => e = .returned (.bool true) ∧ Below w'.heap.size w' w2 := fun w' => by
   have := possible_i m w'
   rwa [decide_eq_true (by omega)] at this
 refine calls_wc (args := [iv m, .slice A fr.length c, iv to]) [6, 7] [] Tryz.func41 rfl Tryz.ntmps41 rfl rfl rfl rfl (H.refl w) ?_
 refine uS rfl fun K hK => ?_
 iterate 2 refine jm rfl rfl ?_
 refine wN hK ?_; clear hK
 refine WC.seq fun K hK => ?_
 refine uS rfl fun K hK => ?_
 refine jm rfl rfl ?_
 refine WL.want rfl (WL1.callP rfl rfl rfl (.cons (.mk (v := .int _ _) rfl rfl) .nil) (fun w hw => hpos w) ?_)
 iterate 2 refine jm rfl rfl ?_
 refine qm rfl rfl ?_
 refine qn rfl rfl rfl ?_
 refine qm rfl rfl ?_
 refine qW rfl (WL1.give rfl (g_sub rfl (.mk rfl rfl) (.mk rfl rfl) hsub) ?_)
 refine qf rfl rfl (by omega) ?_
 iterate 2 refine jm rfl rfl ?_
 refine qm rfl rfl ?_
 refine qf rfl rfl (by omega) ?_
 iterate 2 refine jm rfl rfl ?_
 iterate 2 refine qm rfl rfl ?_
 refine qf rfl rfl (by omega) ?_
 refine jm rfl rfl ?_
 refine wN hK ?_; clear hK
 refine uF rfl rfl ?_
 refine WC.skip ?_
 (refine hK _ _ ?_; clear hK)
 refine WC.seq fun K hK => ?_
 refine uS rfl fun K hK => ?_
 refine jm rfl rfl ?_
 refine jn rfl rfl rfl ?_
 refine jm rfl rfl ?_
 refine wN hK ?_; clear hK
 refine WC.block ?_
 refine WC.loop (36893487597663290304) (fun i : Nat => [(39, iv i)]) (fun _ => []) (fun i => i ≤ n) (fun i => n - i) 0 ⟨rfl, trivial⟩ (List.nil_sublist _) (by omega) ?_
 · intro i U hi
   by_cases hlt : i < n
   · have hgv := ldv_get (ld := fr) (k := i) (by omega)
     have hil := hfr.lt i hlt
     by_cases hi0 : i = 0
     · subst hi0
       refine uS rfl fun K hK => ?_
       refine jt rfl rfl (by omega) ?_
       refine wN hK ?_; clear hK
       refine WC.seq fun K hK => ?_
       refine uT rfl rfl ?_
       refine WC.skip ?_
       (refine hK _ _ ?_; clear hK)
       refine WC.seq fun K hK => ?_
       refine WC.block ?_
       refine uS rfl fun K hK => ?_
       refine jm rfl rfl ?_
       refine wG rfl rfl (g_indexAddr (sz := 1) rfl (.mk rfl rfl) (.mk rfl rfl) rfl rfl (show _ = ((0 : Nat) : Int) from rfl) (by omega) (fun _ _ => sl_some hs (by omega))) ?_
       refine jl rfl rfl rfl (rd_sl hs hgv) ?_
       iterate 2 refine jm rfl rfl ?_
       refine wN hK ?_; clear hK
       refine uS rfl fun K hK => ?_
       refine jm rfl rfl ?_
       refine jf rfl rfl (by omega) ?_
       refine jm rfl rfl ?_
       iterate 2 refine qm rfl rfl ?_
       refine qf rfl rfl (by omega) ?_
       iterate 2 refine jm rfl rfl ?_
       refine qm rfl rfl ?_
       refine qf rfl rfl (by omega) ?_
       refine qm rfl rfl ?_
       iterate 7 refine ut rfl rfl ?_
       refine qm rfl rfl ?_
       refine jm rfl rfl ?_
       refine wN hK ?_; clear hK
       refine uF rfl rfl ?_
       refine WC.skip ?_
       (refine hK _ _ ?_; clear hK)
       refine WC.region rfl ?_
       refine ji rfl rfl (by omega) ?_
       refine jm rfl rfl ?_
       refine WL.nil ?_
       exact ⟨0 + 1, (by repeat (first | with_reducible exact .refl _ _ | refine .set rfl ?_ | refine .put rfl ?_ | refine .sets rfl ?_ | refine .hav rfl ?_ | exact .refl _ _)), ⟨rfl, trivial⟩, .refl _, by omega, by omega⟩
     · have hsb : IntKind.i64.wrap ((i : Int) - 1) = ((i - 1 : Nat) : Int) := by rw [IntWalk.i64_in _ (by omega)]; omega
       have hgv2 := ldv_get (ld := fr) (k := i - 1) (by omega)
       have hic := hfr.inc (i - 1) (by omega)
       rw [show i - 1 + 1 = i from by omega] at hic
       refine uS rfl fun K hK => ?_
       refine jt rfl rfl (by omega) ?_
       refine wN hK ?_; clear hK
       refine WC.seq fun K hK => ?_
       refine uT rfl rfl ?_
       refine WC.skip ?_
       (refine hK _ _ ?_; clear hK)
       refine WC.seq fun K hK => ?_
       refine WC.block ?_
       refine uS rfl fun K hK => ?_
       refine jm rfl rfl ?_
       refine wG rfl rfl (g_indexAddr (sz := 1) rfl (.mk rfl rfl) (.mk rfl rfl) rfl rfl rfl (by omega) (fun _ _ => sl_some hs (by omega))) ?_
       refine jl rfl rfl rfl (rd_sl hs hgv) ?_
       iterate 2 refine jm rfl rfl ?_
       refine wN hK ?_; clear hK
       refine uS rfl fun K hK => ?_
       refine jm rfl rfl ?_
       refine jf rfl rfl (by omega) ?_
       refine jm rfl rfl ?_
       iterate 2 refine qm rfl rfl ?_
       refine qf rfl rfl (by omega) ?_
       iterate 2 refine jm rfl rfl ?_
       refine qm rfl rfl ?_
       refine qt rfl rfl (by omega) ?_
       iterate 3 refine qm rfl rfl ?_
       refine qW rfl (WL1.give rfl (g_sub rfl (.mk rfl rfl) (.mk rfl rfl) hsb) ?_)
       refine qW rfl (WL1.give rfl (g_indexAddr (sz := 1) rfl (.mk rfl rfl) (.mk rfl rfl) rfl rfl rfl (by omega) (fun _ _ => sl_some hs (by omega))) ?_)
       refine ql rfl rfl rfl (rd_sl hs hgv2) ?_
       refine qm rfl rfl ?_
       refine qf rfl rfl (by omega) ?_
       refine qm rfl rfl ?_
       refine jm rfl rfl ?_
       refine wN hK ?_; clear hK
       refine uF rfl rfl ?_
       refine WC.skip ?_
       (refine hK _ _ ?_; clear hK)
       refine WC.region rfl ?_
       refine ji rfl rfl (by omega) ?_
       refine jm rfl rfl ?_
       refine WL.nil ?_
       exact ⟨i + 1, (by repeat (first | with_reducible exact .refl _ _ | refine .set rfl ?_ | refine .put rfl ?_ | refine .sets rfl ?_ | refine .hav rfl ?_ | exact .refl _ _)), ⟨rfl, trivial⟩, .refl _, by omega, by omega⟩
   · obtain rfl : i = n := by omega
     have hH := hfr.helps
     have hinvq := hH.inv_eq h1 h2
     refine uS rfl fun K hK => ?_
     refine jf rfl rfl (by omega) ?_
     refine wN hK ?_; clear hK
     refine WC.seq fun K hK => ?_
     refine uF rfl rfl ?_
     refine WC.exit ?_
     (clear hK; refine hK _ _ ?_; clear hK)
     refine uS rfl fun K hK => ?_
     refine jm rfl rfl ?_
     (refine WL.want rfl (WL1.callN rfl rfl rfl (.cons (.mk (v := .int _ _) rfl rfl) .nil) (fun w hw => generator_n m i w hm h1 h2) ?_); rintro _ _ ⟨Ag, cg, rg, rfl, rfl, hrg, hlg⟩)
     refine jm rfl rfl ?_
     refine wN hK ?_; clear hK
     refine uS rfl fun K hK => ?_
     refine jm rfl rfl ?_
     refine wN hK ?_; clear hK
     refine WC.seq fun K hK => ?_
     refine uS rfl fun K hK => ?_
     refine jm rfl rfl ?_
     refine jn rfl rfl rfl ?_
     refine jm rfl rfl ?_
     refine wN hK ?_; clear hK
     refine WC.block ?_
     refine WC.nilvec 99 1 ?_
     have hsel : ∀ k, k < fr.length → nth fr k < rg.length := fun k hk => by have := hfr.lt k (by omega); omega
     have hrow : ∀ k, k < rg.length → (nth rg k).l.length = i := fun k hk => by rw [els_row hrg hk]; exact genM_rowlen (by omega)
     refine WC.loopI3 (2417261343418899643770880) (fun (k : Nat) (O : Option Addr) (oc : Nat) => [(69, iv k), (11, .slice O k oc)]) (fun k O oc => [vec O k oc 99 1 (((fr.map fun k => nth rg k).map Row.v).take k), vec Ag rg.length cg 99 1 (rg.map Row.v), rowsA rg]) (fun k _ _ => k ≤ i) (fun k _ _ => i - k) 0 none 0 ⟨rfl, rfl, trivial⟩ (Imp.sub (sB (by repeat constructor))) (by omega) ?_
     intro k O oc U2 hk
     by_cases hlt2 : k < i
     · have hks := hsel k (by omega)
       have hgv := ldv_get (ld := fr) (k := k) (by omega)
       have htk : ((fr.map fun k => nth rg k).map Row.v).take (k + 1) = ((fr.map fun k => nth rg k).map Row.v).take k ++ [(nth rg (nth fr k)).v] := by
         rw [List.take_add_one, List.getElem?_map, List.getElem?_map, nth_get (by omega)]; rfl
       refine uS rfl fun K hK => ?_
       refine jt rfl rfl (by omega) ?_
       refine wN hK ?_; clear hK
       refine WC.seq fun K hK => ?_
       refine uT rfl rfl ?_
       refine WC.skip ?_
       (refine hK _ _ ?_; clear hK)
       refine WC.seq fun K hK => ?_
       refine WC.block ?_
       refine uS rfl fun K hK => ?_
       refine wG rfl rfl (g_indexAddr (sz := 1) rfl (.mk rfl rfl) (.mk rfl rfl) rfl rfl rfl (by omega) (fun _ _ => sl_some hs (by omega))) ?_
       refine jl rfl rfl rfl (rd_sl hs hgv) ?_
       refine jm rfl rfl ?_
       refine wN hK ?_; clear hK
       refine WC.region rfl ?_
       iterate 3 refine jm rfl rfl ?_
       refine wG rfl rfl (g_indexAddr (sz := 1) rfl (.mk rfl rfl) (.mk rfl rfl) rfl rfl rfl (by omega) (fun w hw => vec_some hw (.tail _ (.head _)) (by omega))) ?_
       refine jl rfl rfl rfl (rd_vec (.tail _ (.head _)) (get1 (by omega))) ?_
       refine WL.want rfl (WL1.lit (cs := [_]) elR rfl rfl rfl (.cons (.mk (v := .slice _ _ _) rfl rfl) .nil) rfl (by first | (simp [Value.cells]; done) | fail) rfl rfl (fun b78 => ?_))
       refine WL.want rfl (WL1.append elR rfl rfl (.mk rfl rfl) (.mk rfl rfl) (.tail (.head)) (fun w hw => Sl.of_vec hw (.head _)) (all1 rfl) (by unfold maxLen; omega) (by omega) (fun A79 c79 => ?_))
       refine jm rfl rfl ?_
       refine wN hK ?_; clear hK
       refine WC.region rfl ?_
       refine ji rfl rfl (by omega) ?_
       refine jm rfl rfl ?_
       refine WL.nil ?_
       exact ⟨k + 1, _, _, (by repeat (first | with_reducible exact .refl _ _ | refine .set rfl ?_ | refine .put rfl ?_ | refine .sets rfl ?_ | refine .hav rfl ?_ | exact .refl _ _)), ⟨rfl, rfl, trivial⟩, by rw [htk]; exact Imp.cons (Imp.sub (sB (by repeat constructor))), by omega, by omega⟩
     · obtain rfl : k = i := by omega
       have hsq : (fr.map fun k => nth rg k).length = k := by rw [List.length_map, hfl]
       have htl : ((fr.map fun k => nth rg k).map Row.v).take k = (fr.map fun k => nth rg k).map Row.v := List.take_of_length_le (by rw [List.length_map, hsq]; exact Nat.le_refl _)
       rw [htl]
       have hrr : ∀ i, i < fr.length → nth (fr.map fun k => nth rg k) i = nth rg (nth fr i) := fun i hi => nth_map _ hi
       have hel : els (fr.map fun k => nth rg k) = rowsM (genM k) fr := by rw [els_some rg fr hsel, hrg]
       have hgs : Good (els (fr.map fun k => nth rg k)) := good_of (by omega) (by omega) (by rw [hrr 0 (by omega), hrow _ (hsel 0 (by omega))]; omega) (by rw [hrr 0 (by omega), hrow _ (hsel 0 (by omega))]; omega) fun q hq => by rw [hrr q (by omega), hrr 0 (by omega), hrow _ (hsel q (by omega)), hrow _ (hsel 0 (by omega))]
       have hsqr : (nth (fr.map fun k => nth rg k) 0).l.length = (fr.map fun k => nth rg k).length := by rw [hrr 0 (by omega), hrow _ (hsel 0 (by omega)), hsq]
       have hinv : ∀ w', H w [vec O k oc 99 1 ((fr.map fun k => nth rg k).map Row.v), vec Ag rg.length cg 99 1 (rg.map Row.v), rowsA rg] w' → Calls Tryz.prog 91 #[.slice O k oc] w' fun e w2 => ∃ v' M, e = .returned v' ∧ H w' M w2 ∧ ∃ A cc rs, v' = .tuple #[.slice A rs.length cc, iv 0] ∧ M = matM A cc rs ∧ els rs = invOf k fr ∧ rs.length = (fr.map fun k => nth rg k).length := fun w' hw' => by
         have hmt := MatAt.some (va := .slice Ag rg.length cg) (ra := rg) (sel := fr) (A := O) (c := oc) (MatAt.of_rowsA hw' (.tail _ (.head _)) (.tail _ (.tail _ (.head _)))) hsel hw' (by rw [hfl]; exact .head _)
         rw [hfl] at hmt
         exact inverse_n _ _ _ w' hmt hgs hsqr (by rw [hel]; exact hinvq)
       have hshp := (invM_some (rows_shp hH) hinvq).1
       have hrt := hrow to (by omega)
       have hgt : Good (els [nth rg to]) := by
         refine good_of (rs := [nth rg to]) (Nat.le_refl 1) (by show 1 ≤ 64; omega) (by show 1 ≤ (nth rg to).l.length; omega) (by show (nth rg to).l.length ≤ 64; omega) fun q hq => ?_
         have : q = 0 := by have : q < 1 := hq; omega
         subst this; rfl
       refine uS rfl fun K hK => ?_
       refine jf rfl rfl (by omega) ?_
       refine wN hK ?_; clear hK
       refine WC.seq fun K hK => ?_
       refine uF rfl rfl ?_
       refine WC.exit ?_
       (clear hK; refine hK _ _ ?_; clear hK)
       refine uS rfl fun K hK => ?_
       refine jm rfl rfl ?_
       (refine WL.want rfl (WL1.callN rfl rfl rfl (.cons (.mk (v := .slice _ _ _) rfl rfl) .nil) (fun w hw => hinv w hw) ?_); rintro _ _ ⟨Ai, ci, ri, rfl, rfl, hri, hli⟩)
       iterate 5 refine jm rfl rfl ?_
       refine wN hK ?_; clear hK
       refine WC.seq fun K hK => ?_
       refine uS rfl fun K hK => ?_
       refine jm rfl rfl ?_
       refine jf rfl rfl (by omega) ?_
       refine wN hK ?_; clear hK
       refine uF rfl rfl ?_
       refine WC.skip ?_
       (refine hK _ _ ?_; clear hK)
       have hgi : Good (els ri) := good_of (by omega) (by omega) (by rw [els_row hri (by omega), hshp.2 0 (by omega)]; omega) (by rw [els_row hri (by omega), hshp.2 0 (by omega)]; omega) fun q hq => by rw [els_row hri hq, els_row hri (by omega), hshp.2 q (by omega), hshp.2 0 (by omega)]
       have hmr := mul_row hH h1 h2 hrg (by omega) (to := to) (by omega)
       rw [← hri] at hmr
       have hml : ∀ (b : Nat) (w' : World) (L : List Asrt), H w L w' → vec (some ⟨b, 0, none⟩) 1 1 99 1 [(nth rg to).v] ∈ L → rowsA rg ∈ L → vec Ai ri.length ci 99 1 (ri.map Row.v) ∈ L → rowsA ri ∈ L → Calls Tryz.prog 92 #[.slice (some ⟨b, 0, none⟩) 1 1, .slice Ai ri.length ci] w' fun e w2 => ∃ v' M, e = .returned v' ∧ H w' M w2 ∧ ∃ A cc r0, v' = .tuple #[.slice A 1 cc, iv 0] ∧ M = [vec A 1 cc 99 1 [r0.v], rowsA [r0]] ∧ r0.l = wts k fr to := fun b w' L hw' m1 m2 m3 m4 => by
         have hma : MatAt w' (.slice (some ⟨b, 0, none⟩) 1 1) [nth rg to] := ⟨Sl.of_vec hw' m1, fun r hr => by
           rw [List.mem_singleton] at hr; subst hr; exact Sl.of_rowA hw' m2 (by omega)⟩
         refine (mul_n _ _ [nth rg to] ri w' hma (MatAt.of_rowsA hw' m3 m4) hgt hgi (by show (nth rg to).l.length = _; omega)).mono ?_
         rintro e w2 ⟨v', M, rfl, hM, A, cc, ro, rfl, rfl, hro, hlo⟩
         obtain ⟨r0, rfl⟩ := List.length_eq_one_iff.1 hlo
         refine ⟨_, _, rfl, hM, A, cc, r0, rfl, rfl, ?_⟩
         rw [hmr] at hro
         simpa [els] using hro
       refine uS rfl fun K hK => ?_
       iterate 2 refine jm rfl rfl ?_
       refine wG rfl rfl (g_indexAddr (sz := 1) rfl (.mk rfl rfl) (.mk rfl rfl) rfl rfl rfl (by omega) (fun w hw => vec_some hw (.tail _ (.tail _ (.tail _ (.head _)))) (by omega))) ?_
       refine jl rfl rfl rfl (rd_vec (.tail _ (.tail _ (.tail _ (.head _)))) (get1 (by omega))) ?_
       refine WL.want rfl (WL1.lit (cs := [_]) elR rfl rfl rfl (.cons (.mk (v := .slice _ _ _) rfl rfl) .nil) rfl (by first | (simp [Value.cells]; done) | fail) rfl rfl (fun b93 => ?_))
       refine jm rfl rfl ?_
       (refine WL.want rfl (WL1.callN rfl rfl rfl (.cons (.mk (v := .slice _ _ _) rfl rfl) (.cons (.mk (v := .slice _ _ _) rfl rfl) .nil)) (fun w hw => hml _ w _ hw (by repeat constructor) (by repeat constructor) (by repeat constructor) (by repeat constructor)) ?_); rintro _ _ ⟨Ap, cp, r0, rfl, rfl, hr0⟩)
       iterate 5 refine jm rfl rfl ?_
       refine wN hK ?_; clear hK
       refine uS rfl fun K hK => ?_
       refine jm rfl rfl ?_
       refine wG rfl rfl (g_indexAddr (sz := 1) rfl (.mk rfl rfl) (.mk rfl rfl) rfl rfl (show _ = ((0 : Nat) : Int) from rfl) (by omega) (fun w hw => vec_some hw (.head _) (by omega))) ?_
       refine jl rfl rfl rfl (rd_vec (.head _) (show ([r0.v] : List Value)[0 * 1]? = some r0.v from rfl)) ?_
       iterate 2 refine jm rfl rfl ?_
       refine wN hK ?_; clear hK
       refine WC.ret ?_
       have hr0l : r0.l.length = k := by rw [hr0, wts_len]
       have hown : r0.own = vec r0.A k r0.c 5 1 (bvs (wts k fr to)) := by rw [Row.own, hr0l, hr0]
       refine fun w' hw' => ⟨_, [r0.own], rfl, ?_, r0.A, r0.c, ?_, by rw [hown]⟩
       · refine Imp.h ?_ hw'
         exact Imp.trans (M := [rowsA [r0]]) (Imp.pick (by repeat constructor) (Imp.nil _)) (Imp.unbun [r0.own] [])
       · show Value.tuple #[r0.v, iv 0] = _
         rw [Row.v, hr0l]
end Go.Proofs.YtdcijljfgcjelaaGreat
namespace Go.Proofs.YtdcijljfgcjelaaGreat
set_option maxRecDepth 20000
open Go.RowKit
structure IRow where
 A : Option Addr
 c : Nat
 l : List Nat
instance : Inhabited IRow := ⟨⟨none, 0, []⟩⟩
def IRow.v (r : IRow) : Value := .slice r.A r.l.length r.c
def IRow.own (r : IRow) : Asrt := vec r.A r.l.length r.c 3 1 (ldv r.l)
def IMat (w : World) (v : Value) (rs : List IRow) : Prop := Sl w 1 v rs.length (rs.map IRow.v) ∧ ∀ r ∈ rs, Sl w 1 r.v r.l.length (ldv r.l)
theorem IMat.below {w w' : World} {v : Value} {rs : List IRow} (h : IMat w v rs) (hb : Below w.heap.size w w') : IMat w' v rs := ⟨h.1.below hb, fun r hr => (h.2 r hr).below hb⟩
theorem IMat.row {w : World} {v : Value} {rs : List IRow} (h : IMat w v rs) {k : Nat} (hk : k < rs.length) : Sl w 1 (nth rs k).v (nth rs k).l.length (ldv (nth rs k).l) := h.2 _ (nth_mem hk)
abbrev rowsI (rs : List IRow) : Asrt := bun (rs.map IRow.own)
theorem elRI : Elem Tryz.prog 59 29 (.slice none 0 0) 1 24 := ⟨by kernel_rfl, by kernel_rfl, rfl, by decide⟩
theorem irowv_get {rs : List IRow} {k : Nat} (h : k < rs.length) : (rs.map IRow.v)[k * 1]? = some (nth rs k).v := get1 h
section
variable {w0 w : World} {L : List Asrt}
theorem rowI_own {rs : List IRow} {k : Nat} (hw : H w0 L w) (hm : rowsI rs ∈ L) (hk : k < rs.length) : w.ownsRow 0 3 1 (nth rs k).v (nth rs k).l.length (ldv (nth rs k).l) :=
 (Sep.in_ (hw.2.in_ _ hm).1 (nth rs k).own (List.mem_map_of_mem (nth_mem hk))).1
theorem Sl.of_rowI {rs : List IRow} {k : Nat} (hw : H w0 L w) (hm : rowsI rs ∈ L) (hk : k < rs.length) : Sl w 1 (nth rs k).v (nth rs k).l.length (ldv (nth rs k).l) := Sl.of_own (rowI_own hw hm hk)
theorem IMat.of_rows {A : Option Addr} {n c : Nat} {rs : List IRow} (hw : H w0 L w) (h0 : vec A n c 29 1 (rs.map IRow.v) ∈ L) (h : rowsI rs ∈ L) (hn : rs.length = n) : IMat w (.slice A n c) rs := by
 subst hn
 exact ⟨Sl.of_vec hw h0, fun r hr => by
   obtain ⟨k, hk, rfl⟩ := List.getElem_of_mem hr
   have := Sl.of_rowI hw h hk
   rwa [nth_eq hk] at this⟩
end
theorem rowsI_new {rs : List IRow} {r : IRow} {L : List Asrt} : Imp (r.own :: rowsI rs :: L) (rowsI (rs ++ [r]) :: L) := by
 unfold rowsI
 rw [List.map_append]
 exact Imp.new
theorem rowsI_none {L : List Asrt} : Imp L (rowsI [] :: L) := Imp.none
end Go.Proofs.YtdcijljfgcjelaaGreat
namespace Go.Proofs.YtdcijljfgcjelaaGreat
set_option maxRecDepth 20000
open Go.RowKit
attribute [local irreducible] Calls
theorem clonei_n (v : Value) (l : List Nat) (w : World) (hv : Sl w 1 v l.length (ldv l)) (h1 : l = [] → v = .slice none 0 0) (h2 : l.length ≤ 1000) : Calls Tryz.prog 176 #[v] w fun e w' => ∃ v' M, e = .returned v' ∧ H w M w' ∧
   ∃ A c, v' = .slice A l.length c ∧ M = [vec A l.length c 3 1 (ldv l)] := by
 obtain ⟨A, c, rfl, hc, hm, hs⟩ := hv.open_
 by_cases h0 : l = []
 · subst h0
   have := h1 rfl
   injection this with e1 e2 e3
   subst e1; subst e3
   refine calls_wc (args := [.slice none 0 0]) [2] [] Tryz.func176 rfl Tryz.ntmps176 rfl rfl rfl rfl (H.refl _) ?_
   refine uS rfl fun K hK => ?_
   refine jm rfl rfl ?_
   refine wN hK ?_; clear hK
   refine WC.seq fun K hK => ?_
   refine uS rfl fun K hK => ?_
   refine jm rfl rfl ?_
   refine wG rfl rfl (g_eqSNN rfl rfl (.mk rfl rfl) (.mk rfl rfl)) ?_
   refine wN hK ?_; clear hK
   refine uT rfl rfl ?_
   refine uS rfl fun K hK => ?_
   refine jm rfl rfl ?_
   refine wN hK ?_; clear hK
   refine WC.ret ?_
   exact fun w' hw' => ⟨_, _, rfl, hw'.nilvec 3 1, none, 0, rfl, rfl⟩
 · have hpos : 0 < l.length := List.length_pos_iff.2 h0
   obtain ⟨ad, rfl⟩ : ∃ ad, A = some ad := by
     have := sl_some hv (by omega)
     exact Option.isSome_iff_exists.1 this
   refine calls_wc (args := [.slice (some ad) l.length c]) [2] [] Tryz.func176 rfl Tryz.ntmps176 rfl rfl rfl rfl (H.refl _) ?_
   refine uS rfl fun K hK => ?_
   refine jm rfl rfl ?_
   refine wN hK ?_; clear hK
   refine WC.seq fun K hK => ?_
   refine uS rfl fun K hK => ?_
   refine jm rfl rfl ?_
   refine wG rfl rfl (g_eqSNS rfl rfl (.mk rfl rfl) (.mk rfl rfl) ((fun _ _ => rfl))) ?_
   refine wN hK ?_; clear hK
   refine uF rfl rfl ?_
   refine WC.skip ?_
   (refine hK _ _ ?_; clear hK)
   refine uS rfl fun K hK => ?_
   refine WL.want rfl (WL1.lit (cs := []) elI rfl rfl rfl .nil rfl (by first | (simp [Value.cells]; done) | fail) rfl rfl (fun b5 => ?_))
   refine jm rfl rfl ?_
   refine WL.want rfl (WL1.append elI rfl rfl (.mk rfl rfl) (.mk rfl rfl) (.head) (fun w hw => Sl.below hs hw.1) (ldv_one _) (by unfold maxLen; omega) (by omega) (fun A7 c7 => ?_))
   refine jm rfl rfl ?_
   refine wN hK ?_; clear hK
   refine WC.ret ?_
   exact fun w' hw' => ⟨_, _, rfl, hw', A7, c7, by rw [Nat.zero_add]; rfl, by rw [Nat.zero_add]; rfl⟩
def cmb (n : Nat) : Nat → List Nat → Nat → List (List Nat)
 | 0, pre, _ => [pre]
 | r + 1, pre, d => (List.range' d (n - r - d)).flatMap fun x => cmb n r (pre ++ [x]) (x + 1)
theorem cmb_step {n r d : Nat} (pre : List Nat) (h : d < n - r) : cmb n (r + 1) pre d = cmb n r (pre ++ [d]) (d + 1) ++ cmb n (r + 1) pre (d + 1) := by
 rw [cmb, cmb, show n - r - d = (n - r - (d + 1)) + 1 from by omega, List.range'_succ, List.flatMap_cons]
theorem cmb_done {n r d : Nat} (pre : List Nat) (h : n - r ≤ d) : cmb n (r + 1) pre d = [] := by
 rw [cmb, show n - r - d = 0 from by omega]; rfl
def frm (pre : List Nat) : Nat := if pre.length = 0 then 0 else nth pre (pre.length - 1) + 1
theorem frm_snoc (pre : List Nat) (d : Nat) : frm (pre ++ [d]) = d + 1 := by
 unfold frm
 rw [if_neg (by simp)]
 congr 1
 rw [List.length_append, show pre.length + [d].length - 1 = pre.length from by simp, nth_eq (by simp)]
 simp
theorem perm_h {α : Type} (a : α) (C L X D : List α) : (a :: (L ++ (C ++ (X ++ D)))).Perm (C ++ (L ++ (X ++ (a :: D)))) := by
 have h1 : (C ++ (L ++ (X ++ (a :: D)))).Perm (a :: (C ++ (L ++ (X ++ D)))) := by simpa [List.append_assoc] using (List.perm_middle (a := a) (l₁ := C ++ L ++ X) (l₂ := D))
 exact ((List.perm_append_comm_assoc L C (X ++ D)).cons a).trans h1.symm
abbrev bpv (b : Nat) : Value := cellPtr (some ⟨b, 0, none⟩) 0
abbrev setsV (b1 b2 b3 : Nat) : Value := .func (.func 175) #[] #[bpv b1, bpv b2, bpv b3]
theorem sets_n (A : Option Addr) (m c : Nat) (n k : Int) (w : World) : Calls Tryz.prog 131 #[.slice A m c, iv n, iv k] w fun e w' => ∃ v M, e = .returned v ∧ H w M w' ∧ ∃ b1 b2 b3, v = setsV b1 b2 b3 ∧ M = [pt b1 29 [.slice A m c], pt b2 3 [iv k], pt b3 3 [iv n]] := by
 refine calls_wc (args := [.slice A m c, iv n, iv k]) [6] [] Tryz.func131 rfl Tryz.ntmps131 rfl rfl rfl rfl (H.refl _) ?_
 refine uS rfl fun K hK => ?_
 refine WL.want rfl (WL1.box rfl rfl (.mk (v := .slice _ _ _) rfl rfl) rfl (fun b3 => ?_))
 refine WL.want rfl (WL1.box rfl rfl (.mk (v := .int _ _) rfl rfl) rfl (fun b4 => ?_))
 refine WL.want rfl (WL1.box rfl rfl (.mk (v := .int _ _) rfl rfl) rfl (fun b5 => ?_))
 refine wG rfl rfl (g_assign rfl (.mk rfl (by conv => lhs; whnf))) ?_
 refine wN hK ?_; clear hK
 refine uS rfl fun K hK => ?_
 refine wG rfl rfl (g_makeFunc rfl (.cons (.mk (v := cellPtr _ _) rfl rfl) (.cons (.mk (v := cellPtr _ _) rfl rfl) (.cons (.mk (v := cellPtr _ _) rfl rfl) .nil)))) ?_
 refine jm rfl rfl ?_
 refine wN hK ?_; clear hK
 refine WC.ret ?_
 exact fun w' hw' => ⟨_, _, rfl, (Imp.pick (by repeat constructor) (Imp.pick (by repeat constructor) (Imp.pick (by repeat constructor) (Imp.nil _)))).h hw', _, _, _, rfl, rfl⟩
def setI (k : Nat) (x : List Nat) (vals : List Value) (M : List Asrt) : Prop := ∃ A c, x.length = k ∧ vals = [.slice A k c] ∧ M = [vec A k c 3 1 (ldv x)]
set_option maxHeartbeats 1000000 in
theorem sets_it {w0 : World} {n k : Nat} (hn : n ≤ 60) (hk1 : 1 ≤ k) (hk : k ≤ 60) : ∀ (r : Nat) {pre : List Nat} {A : Option Addr} {c b1 b2 b3 : Nat}, pre.length + r = k → frm pre ≤ 60 → (pre = [] → A = none ∧ c = 0) →
   ItSpec Tryz.prog w0 175 [bpv b1, bpv b2, bpv b3] [pt b1 29 [.slice A pre.length c], pt b2 3 [iv k], pt b3 3 [iv n], vec A pre.length c 3 1 (ldv pre)] (cmb n r pre (frm pre)) (setI k) := by
 intro r
 induction r with
 | zero =>
   intro pre A c b1 b2 b3 hl hf hA r I hy L X w hI hw
   refine calls_wcM (args := [.func (.yield r) #[] #[], bpv b1, bpv b2, bpv b3]) [] ([pt b1 29 [.slice A pre.length c], pt b2 3 [iv k], pt b3 3 [iv n], vec A pre.length c 3 1 (ldv pre)] ++ (L ++ X)) Tryz.func175 rfl Tryz.ntmps175 rfl rfl rfl rfl hw ?_
   refine (show WG _ _ w0 _ _ _ _ from ?_) w hw
   (refine WG.seq ?_; intro K hK)
   refine WC.region rfl ?_
   refine WL.want rfl (WL1.box rfl rfl (.mk (v := .func _ _ _) rfl rfl) rfl (fun b4 => ?_))
   refine wN hK ?_; clear hK
   (refine WG.seq ?_; intro K hK)
   refine uS rfl fun K hK => ?_
   refine jl rfl rfl rfl (rd_pt (.tail _ (.head _)) rfl) ?_
   refine jn rfl rfl rfl ?_
   refine jl rfl rfl rfl (rd_pt (.tail _ (.tail _ (.head _))) rfl) ?_
   refine jt rfl rfl (by omega) ?_
   refine wN hK ?_; clear hK
   refine uT rfl rfl ?_
   have hc := fun w (hw : H w0 (pt b4 250 [.func (.yield r) #[] #[]] :: ([pt b1 29 [.slice A pre.length c], pt b2 3 [iv k], pt b3 3 [iv n], vec A pre.length c 3 1 (ldv pre)] ++ (L ++ X))) w) => clonei_n (.slice A pre.length c) pre w (Sl.of_vec hw (by repeat constructor)) (fun h => by rw [(hA h).1, (hA h).2, h]; rfl) (by omega)
   have HY : ∀ A' c' w', H w0 (vec A' pre.length c' 3 1 (ldv pre) :: pt b4 250 [.func (.yield r) #[] #[]] :: ([pt b1 29 [.slice A pre.length c], pt b2 3 [iv k], pt b3 3 [iv n], vec A pre.length c 3 1 (ldv pre)] ++ (L ++ X))) w' → YieldAt Fence.wide 0 Tryz.prog r #[.slice A' pre.length c'] w' fun e w2 => ∃ v L'', e = .returned v ∧ H w0 L'' w2 ∧ v = .bool true ∧ ∃ L', I [] L' ∧ L'' = pt b4 250 [.func (.yield r) #[] #[]] :: ([pt b1 29 [.slice A pre.length c], pt b2 3 [iv k], pt b3 3 [iv n], vec A pre.length c 3 1 (ldv pre)] ++ (L' ++ X)) := fun A' c' w' hw' => by
     have hkp : pre.length = k := by omega
     refine YieldAt.mono (hy pre [] (List.suffix_refl _) [.slice A' pre.length c'] [vec A' pre.length c' 3 1 (ldv pre)] L _ w' ⟨A', c', hkp, by rw [hkp], by rw [hkp]⟩ hI (hw'.perm ((List.perm_append_comm_assoc [_, _, _, _, _] L X).cons _))) ?_
     rintro e w2 ⟨rfl, L', hI', hH⟩
     exact ⟨_, _, rfl, hH.perm (List.perm_append_comm_assoc L' [_, _, _, _, _] X), rfl, L', hI', rfl⟩
   refine WC.seq ?_
   intro K hK
   refine WC.anyI rfl ?_
   refine WI.two 0 1 (by decide +kernel) (.plain rfl rfl rfl ?_) (.plain rfl rfl rfl ?_)
   · refine WL1.give rfl (g_load rfl (.mk rfl rfl) rfl (rd_pt (.head _) rfl)) ?_
     refine WL.nil ?_
     refine WI.one 1 (by decide +kernel) (.plain rfl rfl rfl ?_)
     refine WL1.give rfl (g_load rfl (.mk rfl rfl) rfl (rd_pt (.tail _ (.head _)) rfl)) ?_
     refine WL.nil ?_
     refine WI.one 2 (by decide +kernel) (.plain rfl rfl rfl ?_)
     (refine WL1.callN rfl rfl rfl (.cons (.mk (v := .slice _ _ _) rfl rfl) .nil) (fun w hw => hc w hw) ?_; rintro _ _ ⟨A', c', rfl, rfl⟩)
     refine WL.nil ?_
     refine WI.one 3 (by decide +kernel) (.yield (r := r) (vals := [.slice A' pre.length c']) rfl rfl rfl rfl (.mk rfl rfl) (.cons (.mk rfl rfl) .nil) ?_)
     intro w' hw'
     refine YieldAt.mono (HY A' c' w' hw') ?_
     rintro e w2 ⟨v, L'', rfl, hH, rfl, L', hI', rfl⟩
     refine ⟨_, _, rfl, hH, WI.done (by decide +kernel) (hK _ _ ?_)⟩
     refine WC.ret ?_
     exact fun w' hw' => ⟨_, [], _, rfl, hw', fun w'' hw'' => ⟨rfl, L', hI', hw''.sub (.cons _ (.refl _))⟩⟩
   · refine WL1.give rfl (g_load rfl (.mk rfl rfl) rfl (rd_pt (.tail _ (.head _)) rfl)) ?_
     refine WL.nil ?_
     refine WI.two 0 2 (by decide +kernel) (.plain rfl rfl rfl ?_) (.plain rfl rfl rfl ?_)
     · refine WL1.give rfl (g_load rfl (.mk rfl rfl) rfl (rd_pt (.head _) rfl)) ?_
       refine WL.nil ?_
       refine WI.one 2 (by decide +kernel) (.plain rfl rfl rfl ?_)
       (refine WL1.callN rfl rfl rfl (.cons (.mk (v := .slice _ _ _) rfl rfl) .nil) (fun w hw => hc w hw) ?_; rintro _ _ ⟨A', c', rfl, rfl⟩)
       refine WL.nil ?_
       refine WI.one 3 (by decide +kernel) (.yield (r := r) (vals := [.slice A' pre.length c']) rfl rfl rfl rfl (.mk rfl rfl) (.cons (.mk rfl rfl) .nil) ?_)
       intro w' hw'
       refine YieldAt.mono (HY A' c' w' hw') ?_
       rintro e w2 ⟨v, L'', rfl, hH, rfl, L', hI', rfl⟩
       refine ⟨_, _, rfl, hH, WI.done (by decide +kernel) (hK _ _ ?_)⟩
       refine WC.ret ?_
       exact fun w' hw' => ⟨_, [], _, rfl, hw', fun w'' hw'' => ⟨rfl, L', hI', hw''.sub (.cons _ (.refl _))⟩⟩
     · (refine WL1.callN rfl rfl rfl (.cons (.mk (v := .slice _ _ _) rfl rfl) .nil) (fun w hw => hc w hw) ?_; rintro _ _ ⟨A', c', rfl, rfl⟩)
       refine WL.nil ?_
       refine WI.one 0 (by decide +kernel) (.plain rfl rfl rfl ?_)
       refine WL1.give rfl (g_load rfl (.mk rfl rfl) rfl (rd_pt (.tail _ (.head _)) rfl)) ?_
       refine WL.nil ?_
       refine WI.one 3 (by decide +kernel) (.yield (r := r) (vals := [.slice A' pre.length c']) rfl rfl rfl rfl (.mk rfl rfl) (.cons (.mk rfl rfl) .nil) ?_)
       intro w' hw'
       refine YieldAt.mono (HY A' c' w' hw') ?_
       rintro e w2 ⟨v, L'', rfl, hH, rfl, L', hI', rfl⟩
       refine ⟨_, _, rfl, hH, WI.done (by decide +kernel) (hK _ _ ?_)⟩
       refine WC.ret ?_
       exact fun w' hw' => ⟨_, [], _, rfl, hw', fun w'' hw'' => ⟨rfl, L', hI', hw''.sub (.cons _ (.refl _))⟩⟩
 | succ r ih =>
   intro pre A c b1 b2 b3 hl hf hA rr I hy L X w hI hw
   refine calls_wcM (args := [.func (.yield rr) #[] #[], bpv b1, bpv b2, bpv b3]) [] ([pt b1 29 [.slice A pre.length c], pt b2 3 [iv k], pt b3 3 [iv n], vec A pre.length c 3 1 (ldv pre)] ++ (L ++ X)) Tryz.func175 rfl Tryz.ntmps175 rfl rfl rfl rfl hw ?_
   refine (show WG _ _ w0 _ _ _ _ from ?_) w hw
   (refine WG.seq ?_; intro K hK)
   refine WC.region rfl ?_
   refine WL.want rfl (WL1.box rfl rfl (.mk (v := .func _ _ _) rfl rfl) rfl (fun b4 => ?_))
   refine wN hK ?_; clear hK
   (refine WG.seq ?_; intro K hK)
   refine uS rfl fun K hK => ?_
   refine jl rfl rfl rfl (rd_pt (.tail _ (.head _)) rfl) ?_
   refine jn rfl rfl rfl ?_
   refine jl rfl rfl rfl (rd_pt (.tail _ (.tail _ (.head _))) rfl) ?_
   refine jf rfl rfl (by omega) ?_
   refine wN hK ?_; clear hK
   refine uF rfl rfl ?_
   refine WC.skip ?_
   (refine hK _ _ ?_; clear hK)
   (refine WG.seq ?_; intro K hK)
   refine WC.region rfl ?_
   refine jm rfl rfl ?_
   refine wN hK ?_; clear hK
   (refine WG.seq ?_; intro K hK)
   have hB : ∀ E : Env, Agree E [(5, iv (frm pre)), (1, bpv b1), (2, bpv b2), (3, bpv b3), (4, bpv b4)] → K E (pt b4 250 [.func (.yield rr) #[] #[]] :: ([pt b1 29 [.slice A pre.length c], pt b2 3 [iv k], pt b3 3 [iv n], vec A pre.length c 3 1 (ldv pre)] ++ (L ++ X))) := fun E hE => by
     rw [← sets_same hE]
     refine hK _ _ ?_
     clear hK hE
     (refine WG.seq ?_; intro K hK)
     refine WC.region rfl ?_
     iterate 2 refine jm rfl rfl ?_
     refine wN hK ?_; clear hK
     refine WG.block ?_
     refine WG.loop (1090715400536256) (fun g : Nat × List Nat × List Asrt => [(6, iv g.1)]) (fun g => pt b4 250 [.func (.yield rr) #[] #[]] :: ([pt b1 29 [.slice A pre.length c], pt b2 3 [iv k], pt b3 3 [iv n], vec A pre.length c 3 1 (ldv pre)] ++ (g.2.2 ++ (X ++ g.2.1.map dfr)))) (fun g => g.2.1) (fun g => g.1 ≤ 60 ∧ I (cmb n (r + 1) pre g.1) g.2.2 ∧ cmb n (r + 1) pre g.1 <:+ cmb n (r + 1) pre (frm pre)) (fun g => 61 - g.1) (frm pre, [], L) ⟨rfl, trivial⟩ (by rw [List.map_nil, List.append_nil]; exact List.Sublist.refl _) rfl ⟨hf, hI, List.suffix_refl _⟩ ?_
     clear hI hw
     clear L w
     rintro ⟨d, Ds, L⟩ U ⟨hd, hI, hs⟩
     dsimp only at hd hI hs ⊢
     by_cases hlt : d < n - r
     · have hcl : ∀ w, H w0 (pt b4 250 [.func (.yield rr) #[] #[]] :: ([pt b1 29 [.slice A pre.length c], pt b2 3 [iv k], pt b3 3 [iv n], vec A pre.length c 3 1 (ldv pre)] ++ (L ++ (X ++ Ds.map dfr)))) w → _ := fun w hw => clonei_n (.slice A pre.length c) pre w (Sl.of_vec hw (by repeat constructor)) (fun h => by rw [(hA h).1, (hA h).2, h]; rfl) (by omega)
       rw [cmb_step pre hlt] at hI hs
       (refine WG.seq ?_; intro K hK)
       refine uS rfl fun K hK => ?_
       refine jm rfl rfl ?_
       refine jl rfl rfl rfl (rd_pt (.tail _ (.tail _ (.tail _ (.head _)))) rfl) ?_
       refine jl rfl rfl rfl (rd_pt (.tail _ (.tail _ (.head _))) rfl) ?_
       refine jl rfl rfl rfl (rd_pt (.tail _ (.head _)) rfl) ?_
       refine jn rfl rfl rfl ?_
       iterate 2 refine ji rfl rfl (by omega) ?_
       refine jt rfl rfl (by omega) ?_
       refine wN hK ?_; clear hK
       refine uT rfl rfl ?_
       refine WC.skip ?_
       (refine hK _ _ ?_; clear hK)
       refine WG.seqG ?_
       refine WG.block ?_
       (refine WG.seq ?_; intro K hK)
       refine WC.held [pt b1 29 [.slice A pre.length c], pt b2 3 [iv k], pt b3 3 [iv n], vec A pre.length c 3 1 (ldv pre)] rfl (by kernel_rfl) ?_
       refine uH 0 rfl (by decide +kernel) (iS (by repeat constructor)) rfl (Gl rfl rfl (rd_pt (.head _) rfl)) ?_
       refine uH 2 rfl (by decide +kernel) (iS (by repeat constructor)) rfl (Gm rfl) ?_
       refine uH 5 rfl (by decide +kernel) (iS (by repeat constructor)) rfl (Gl rfl rfl (rd_pt (.tail _ (.tail _ (.head _))) rfl)) ?_
       refine uH 6 rfl (by decide +kernel) (iS (by repeat constructor)) rfl (Gl rfl rfl (rd_pt (.tail _ (.head _)) rfl)) ?_
       refine WH.two 1 3 (by decide +kernel) rfl rfl rfl rfl ?_ ?_
       (refine WL1.callN rfl rfl rfl (.cons (.mk (v := .slice _ _ _) rfl rfl) .nil) (fun w hw => hcl w hw) ?_; rintro _ _ ⟨A1, c1, rfl, rfl⟩)
       refine WL.nil ?_
       refine ⟨(iS (by repeat constructor)), ?_⟩
       refine WH.one 3 (by decide +kernel) rfl rfl ?_
       refine WL1.lit (cs := [_]) elI rfl rfl rfl (.cons (.mk (v := .int _ _) rfl rfl) .nil) rfl (by first | (simp [Value.cells]; done) | fail) rfl rfl (fun b40 => ?_)
       refine WL.nil ?_
       refine ⟨(iS (by repeat constructor)), ?_⟩
       refine WH.one 4 (by decide +kernel) rfl rfl ?_
       refine WL1.append elI rfl rfl (.mk rfl rfl) (.mk rfl rfl) (.tail (.head)) (fun w hw => Sl.of_vec hw (.head _)) (all1 rfl) (by unfold maxLen; omega) (by omega) (fun A41 c41 => ?_)
       refine WL.nil ?_
       refine ⟨(iS (by repeat constructor)), ?_⟩
       refine WH.one 7 (by decide +kernel) rfl rfl ?_
       (refine WL1.callN rfl rfl rfl (.cons (.mk (v := .slice _ _ _) rfl rfl) (.cons (.mk (v := .int _ _) rfl rfl) (.cons (.mk (v := .int _ _) rfl rfl) .nil))) (fun w hw => sets_n _ _ _ _ _ w) ?_; rintro _ _ ⟨s1, s2, s3, rfl, rfl⟩)
       refine WL.nil ?_
       refine ⟨(iS (by repeat constructor)), ?_⟩
       refine WH.done (by decide +kernel) ?_
       (refine hK _ _ ?_; clear hK)
       rotate_left
       refine WL1.lit (cs := [_]) elI rfl rfl rfl (.cons (.mk (v := .int _ _) rfl rfl) .nil) rfl (by first | (simp [Value.cells]; done) | fail) rfl rfl (fun b40 => ?_)
       refine WL.nil ?_
       refine ⟨(iS (by repeat constructor)), ?_⟩
       refine WH.one 1 (by decide +kernel) rfl rfl ?_
       (refine WL1.callN rfl rfl rfl (.cons (.mk (v := .slice _ _ _) rfl rfl) .nil) (fun w hw => hcl w (hw.sub (.cons _ (.refl _)))) ?_; rintro _ _ ⟨A1, c1, rfl, rfl⟩)
       refine WL.nil ?_
       refine ⟨(iS (by repeat constructor)), ?_⟩
       refine WH.one 4 (by decide +kernel) rfl rfl ?_
       refine WL1.append elI rfl rfl (.mk rfl rfl) (.mk rfl rfl) (.head) (fun w hw => Sl.of_vec hw (.tail _ (.head _))) (all1 rfl) (by unfold maxLen; omega) (by omega) (fun A41 c41 => ?_)
       refine WL.nil ?_
       refine ⟨(iS (by repeat constructor)), ?_⟩
       refine WH.one 7 (by decide +kernel) rfl rfl ?_
       (refine WL1.callN rfl rfl rfl (.cons (.mk (v := .slice _ _ _) rfl rfl) (.cons (.mk (v := .int _ _) rfl rfl) (.cons (.mk (v := .int _ _) rfl rfl) .nil))) (fun w hw => sets_n _ _ _ _ _ w) ?_; rintro _ _ ⟨s1, s2, s3, rfl, rfl⟩)
       refine WL.nil ?_
       refine ⟨(iS (by repeat constructor)), ?_⟩
       refine WH.done (by decide +kernel) ?_
       (refine hK _ _ ?_; clear hK)
       rotate_left
       all_goals
         refine WG.block ?_
         intro w1 hw1
         have hw2 : H w0 ([pt s1 29 [.slice A41 (pre.length + 1) c41], pt s2 3 [iv k], pt s3 3 [iv n], vec A41 (pre.length + 1) c41 3 1 (ldv pre ++ [iv d])] ++ ((pt b4 250 [.func (.yield rr) #[] #[]] :: L) ++ ([pt b1 29 [.slice A pre.length c], pt b2 3 [iv k], pt b3 3 [iv n], vec A pre.length c 3 1 (ldv pre)] ++ (X ++ Ds.map dfr)))) w1 :=
           (Imp.pick (by repeat constructor) (Imp.pick (by repeat constructor) (Imp.pick (by repeat constructor) (Imp.pick (by repeat constructor) (Imp.pick (by repeat constructor) (Imp.trans (Imp.sub (.cons _ (.refl _))) (Imp.perm (List.perm_append_comm_assoc [_, _, _, _] L _)))))))).h hw1
         have ih' := ih (pre := pre ++ [d]) (A := A41) (c := c41) (b1 := s1) (b2 := s2) (b3 := s3) (by rw [List.length_append]; show pre.length + 1 + r = k; omega) (by rw [frm_snoc]; omega) (fun h => by simp at h)
         rw [frm_snoc, ← ldv_snoc, show (pre ++ [d]).length = pre.length + 1 from by simp] at ih'
         refine wpF_range_sp (ps := [45]) _ _ _ (fun rest L' => ∃ L0, I (rest ++ cmb n (r + 1) pre (d + 1)) L0 ∧ L' = pt b4 250 [.func (.yield rr) #[] #[]] :: L0) ih' rfl ?_ rfl ⟨L, hI, rfl⟩ hw2 (fun x vals M ⟨_, _, _, e, _⟩ => by rw [e]; rfl) ?_ ?_
         · exact .mk rfl rfl
         · rintro rec r' D x rest vals M L1 X1 hs1 ⟨A2, c2, hxl, rfl, rfl⟩ ⟨L2, hI2, rfl⟩
           have hsu : x :: (rest ++ cmb n (r + 1) pre (d + 1)) <:+ cmb n (r + 1) pre (frm pre) := by
             obtain ⟨q, hq⟩ := hs1
             exact List.IsSuffix.trans ⟨q, by rw [← hq]; simp⟩ hs
           refine WC.region rfl ?_
           refine jm rfl rfl ?_
           refine WL.nil ?_
           refine ⟨_, .tail .head, ?_⟩
           refine WC.block ?_
           refine WC.seq fun K hK => ?_
           refine WC.regionY 2 (r := rr) rfl rfl rfl rfl ?_
           refine jl rfl rfl rfl (rd_pt (.tail _ (.tail _ (.tail _ (.head _)))) rfl) ?_
           refine jm rfl rfl ?_
           refine WL.nil ?_
           refine ⟨[.slice A2 k c2], .mk rfl rfl, .cons (.mk rfl rfl) .nil, fun w' hw' => YieldAt.mono (hy x (rest ++ cmb n (r + 1) pre (d + 1)) hsu [.slice A2 k c2] [vec A2 k c2 3 1 (ldv x)] L2 _ w' ⟨A2, c2, hxl, rfl, rfl⟩ hI2 (hw'.perm ((List.perm_append_comm_assoc [_, _, _] L2 X1).cons _))) ?_⟩
           rintro e w2 ⟨rfl, L3, hI3, hH⟩
           refine ⟨_, _, rfl, hH.perm (List.perm_append_comm_assoc L3 [_, _, _] X1), ?_⟩
           refine jm rfl rfl ?_
           refine wN hK ?_; clear hK
           refine uF rfl rfl ?_
           refine WC.skip ?_
           exact ⟨_, .head, _, ⟨L3, hI3, rfl⟩, Imp.refl _⟩
         · rintro D L1 w3 ⟨L3, hI3, rfl⟩ hw3
           refine (show WG _ ⟨50, none, marks (D :: Ds)⟩ w0 _ _ _ _ from ?_) w3 hw3
           refine WG.of ?_
           refine WC.region rfl ?_
           refine jm rfl rfl ?_
           refine ji rfl rfl (by omega) ?_
           refine jm rfl rfl ?_
           refine WL.nil ?_
           exact fun w' hw' => ⟨(d + 1, D :: Ds, L3), _, (by repeat (first | with_reducible exact .refl _ _ | refine .set rfl ?_ | refine .put rfl ?_ | refine .sets rfl ?_ | refine .hav rfl ?_ | exact .refl _ _)), ⟨rfl, trivial⟩, rfl, (Imp.trans (M := pt b4 250 [.func (.yield rr) #[] #[]] :: dfr D :: (L3 ++ ([pt b1 29 [.slice A pre.length c], pt b2 3 [iv k], pt b3 3 [iv n], vec A pre.length c 3 1 (ldv pre)] ++ (X ++ Ds.map dfr)))) (Imp.pick (by repeat constructor) (Imp.pick (by repeat constructor) (Imp.sub (.cons _ (.cons _ (.cons _ (.cons _ (.refl _)))))))) (Imp.cons (Imp.perm (perm_h _ _ _ _ _)))).h hw', ⟨by show d + 1 ≤ 60; omega, hI3, (List.suffix_append _ _).trans hs⟩, by show 61 - (d + 1) < 61 - d; omega⟩
     · (refine WG.seq ?_; intro K hK)
       refine uS rfl fun K hK => ?_
       refine jm rfl rfl ?_
       refine jl rfl rfl rfl (rd_pt (.tail _ (.tail _ (.tail _ (.head _)))) rfl) ?_
       refine jl rfl rfl rfl (rd_pt (.tail _ (.tail _ (.head _))) rfl) ?_
       refine jl rfl rfl rfl (rd_pt (.tail _ (.head _)) rfl) ?_
       refine jn rfl rfl rfl ?_
       iterate 2 refine ji rfl rfl (by omega) ?_
       refine jf rfl rfl (by omega) ?_
       refine wN hK ?_; clear hK
       refine uF rfl rfl ?_
       refine WC.exit ?_
       rw [cmb_done pre (by omega)] at hI
       exact fun w' hw' => ⟨_, Ds, _, rfl, (hw'.sub (.cons _ (.refl _))).perm (by simpa [List.append_assoc] using (List.perm_append_comm (l₁ := [pt b1 29 [.slice A pre.length c], pt b2 3 [iv k], pt b3 3 [iv n], vec A pre.length c 3 1 (ldv pre)] ++ (L ++ X)) (l₂ := Ds.map dfr))), fun w'' hw'' => ⟨rfl, L, hI, hw''⟩⟩
   clear hK
   by_cases hp0 : pre.length = 0
   · refine uS rfl fun K hK => ?_
     refine jl rfl rfl rfl (rd_pt (.tail _ (.head _)) rfl) ?_
     refine jn rfl rfl rfl ?_
     refine jf rfl rfl (by omega) ?_
     refine wN hK ?_; clear hK
     refine uF rfl rfl ?_
     refine WC.skip ?_
     refine hB _ ⟨?_, rfl, rfl, rfl, rfl, trivial⟩
     unfold frm
     rw [if_pos hp0]
     rfl
   · have hgl : (ldv pre)[(pre.length - 1) * 1]? = some (iv (nth pre (pre.length - 1) : Nat)) := ldv_get (by omega)
     have hfr : frm pre = nth pre (pre.length - 1) + 1 := if_neg hp0
     have hx : ((pre.length : Int) - 1).toNat = pre.length - 1 := by omega
     have hb60 : nth pre ((pre.length : Int) - 1).toNat + 1 ≤ 60 := by rw [hx, ← hfr]; exact hf
     refine uS rfl fun K hK => ?_
     refine jl rfl rfl rfl (rd_pt (.tail _ (.head _)) rfl) ?_
     refine jn rfl rfl rfl ?_
     refine jt rfl rfl (by omega) ?_
     refine wN hK ?_; clear hK
     refine uT rfl rfl ?_
     refine WC.region rfl ?_
     iterate 2 refine jl rfl rfl rfl (rd_pt (.tail _ (.head _)) rfl) ?_
     refine jn rfl rfl rfl ?_
     refine ji rfl rfl (by omega) ?_
     refine wG rfl rfl (g_indexAddr (sz := 1) rfl (.mk rfl rfl) (.mk rfl rfl) rfl rfl (Int.toNat_of_nonneg (by omega)).symm (by omega) (fun w hw => vec_some hw (.tail _ (.tail _ (.tail _ (.tail _ (.head _))))) (by omega))) ?_
     refine jl rfl rfl rfl (rd_vec (.tail _ (.tail _ (.tail _ (.tail _ (.head _))))) (get1 (by omega))) ?_
     refine ji rfl rfl (by omega) ?_
     refine jm rfl rfl ?_
     refine WL.nil ?_
     refine hB _ ⟨?_, rfl, rfl, rfl, rfl, trivial⟩
     show iv (((nth pre ((pre.length : Int) - 1).toNat : Nat) : Int) + 1) = _
     rw [hx, hfr]
     rfl
def cntF (n : Nat) : Nat → Nat
 | 0 => 1
 | i + 1 => cntF n i * (n - i) / (i + 1)
theorem count_e (n k : Nat) (w : World) (hn : n ≤ 60) (hk : k ≤ n) (hb : ∀ i, i ≤ k → cntF n i ≤ 1000000) : Calls Tryz.prog 130 #[iv n, iv k] w fun e w' => e = .returned (iv (cntF n k)) ∧ Below w.heap.size w w' := by
 refine calls_wc (args := [iv n, iv k]) [4] ([]) Tryz.func130 rfl Tryz.ntmps130 rfl rfl rfl rfl (H.refl w) ?_
 refine uS rfl fun K hK => ?_
 refine jm rfl rfl ?_
 refine wN hK ?_; clear hK
 refine uS rfl fun K hK => ?_
 refine jm rfl rfl ?_
 refine wN hK ?_; clear hK
 refine WC.seq fun K hK => ?_
 refine uS rfl fun K hK => ?_
 iterate 2 refine jm rfl rfl ?_
 refine wN hK ?_; clear hK
 refine WC.block ?_
 refine WC.loop (8388464) (fun i : Nat => [(8, iv i), (5, iv (cntF n i))]) (fun _ => []) (fun i => i ≤ k) (fun i => k - i) 0 ⟨rfl, rfl, trivial⟩ (.refl _) (by omega) ?_
 intro i U hi
 have hbi := hb i hi
 by_cases hlt : i < k
 · have hb2 := hb (i + 1) (by omega)
   have e1 : cntF n (i + 1) = cntF n i * (n - i) / (i + 1) := rfl
   generalize hy : cntF n (i + 1) = y at e1 hb2
   generalize hx : cntF n i = x at hbi e1
   have hm : x * (n - i) ≤ 1000000 * 60 := Nat.mul_le_mul hbi (by omega)
   have hmul : IntKind.i64.wrap ((x : Int) * ((n : Int) - i)) = ((x * (n - i) : Nat) : Int) := by
     rw [show (n : Int) - i = ((n - i : Nat) : Int) from by omega, ← Int.natCast_mul]
     exact IntWalk.i64_in _ (by omega)
   generalize x * (n - i) = z at *
   have hq2 : (z : Int) / ((i : Int) + 1) = (y : Int) := by rw [e1]; exact (Int.natCast_ediv z (i + 1)).symm
   refine uS rfl fun K hK => ?_
   refine jt rfl rfl (by omega) ?_
   refine wN hK ?_; clear hK
   refine WC.seq fun K hK => ?_
   refine uT rfl rfl ?_
   refine WC.skip ?_
   (refine hK _ _ ?_; clear hK)
   refine WC.seq fun K hK => ?_
   refine WC.block ?_
   refine uS rfl fun K hK => ?_
   iterate 2 refine jm rfl rfl ?_
   refine wN hK ?_; clear hK
   refine uS rfl fun K hK => ?_
   iterate 3 refine jm rfl rfl ?_
   refine ji rfl rfl (by omega) ?_
   refine wG rfl rfl (g_mul rfl (.mk rfl rfl) (.mk rfl rfl) hmul) ?_
   refine jm rfl rfl ?_
   refine ji rfl rfl (by omega) ?_
   refine wG rfl rfl (g_quo rfl (.mk rfl rfl) (.mk rfl rfl) (by omega) (IntWalk.i64_quo _ _ (by omega))) ?_
   refine jm rfl rfl ?_
   refine wN hK ?_; clear hK
   refine uS rfl fun K hK => ?_
   refine jm rfl rfl ?_
   refine jf rfl rfl (by omega) ?_
   refine wN hK ?_; clear hK
   refine uF rfl rfl ?_
   refine WC.skip ?_
   (refine hK _ _ ?_; clear hK)
   refine WC.region rfl ?_
   refine ji rfl rfl (by omega) ?_
   refine jm rfl rfl ?_
   refine WL.nil ?_
   exact ⟨i + 1, (by repeat (first | with_reducible exact .refl _ _ | refine .set rfl ?_ | refine .put rfl ?_ | refine .sets rfl ?_ | refine .hav rfl ?_ | exact .refl _ _)), ⟨rfl, by rw [hy, ← hq2]; rfl, trivial⟩, .refl _, by omega, by omega⟩
 · obtain rfl : i = k := by omega
   refine uS rfl fun K hK => ?_
   refine jf rfl rfl (by omega) ?_
   refine wN hK ?_; clear hK
   refine WC.seq fun K hK => ?_
   refine uF rfl rfl ?_
   refine WC.exit ?_
   (clear hK; refine hK _ _ ?_; clear hK)
   refine uS rfl fun K hK => ?_
   iterate 2 refine jm rfl rfl ?_
   refine wN hK ?_; clear hK
   refine WC.ret ?_
   exact fun w' hw' => ⟨rfl, hw'.1⟩
abbrev DT : TypeId := 61
abbrev dsgA (A : Option Addr) (c : Nat) (rs : List IRow) : List Asrt := [vec A rs.length c 29 1 (rs.map IRow.v), rowsI rs]
def cmpI (b6 : Nat) (v : Nat) (all rest : List (List Nat)) (L : List Asrt) : Prop := ∃ A c rs, rs.map IRow.l ++ rest = all ∧ L = pt b6 DT [iv v, .slice A rs.length c] :: dsgA A c rs
set_option maxHeartbeats 1000000 in
theorem complete_n (v k : Nat) (w : World) (hv : v ≤ 60) (hk : 2 ≤ k) (hkv : k ≤ v) (hb : ∀ i, i ≤ min k (v - k) → cntF v i ≤ 1000000) (hc : cntF v (min k (v - k)) ≤ 4096) (hcm : (cmb v k [] 0).length ≤ 100000) :
   Calls Tryz.prog 82 #[iv v, iv k] w fun e w' => ∃ u M, e = .returned u ∧ H w M w' ∧ ∃ A c rs, rs.map IRow.l = cmb v k [] 0 ∧ u = .tuple #[.agg #[iv v, .slice A rs.length c], iv 0] ∧ M = dsgA A c rs := by
 have hmin : (if (v : Int) - k < k then (v : Int) - k else (k : Int)) = ((min k (v - k) : Nat) : Int) := by split <;> omega
 have hcnt := fun w => count_e v (min k (v - k)) w hv (by omega) hb
 generalize cntF v (min k (v - k)) = q at hcnt hc
 generalize min k (v - k) = mn at hcnt hmin
 rw [← hmin] at hcnt
 refine calls_wcMG (args := [iv v, iv k]) [.cell 4 61, .tmp 5] [] Tryz.func82 rfl Tryz.ntmps82 rfl rfl (H.refl w) ?_
 refine (show WG _ _ w _ _ _ _ from ?_) w (H.refl w)
 (refine WG.seq ?_; intro K hK)
 refine WC.region rfl ?_
 refine WL.want rfl (WL1.alloc rfl rfl rfl rfl (fun b4 => ?_))
 refine jm rfl rfl ?_
 refine wN hK ?_; clear hK
 (refine WG.seq ?_; intro K hK)
 refine uS rfl fun K hK => ?_
 refine jm rfl rfl ?_
 refine jf rfl rfl (by omega) ?_
 refine jm rfl rfl ?_
 refine qm rfl rfl ?_
 refine qf rfl rfl (by omega) ?_
 iterate 2 refine jm rfl rfl ?_
 refine qm rfl rfl ?_
 refine qf rfl rfl (by omega) ?_
 iterate 2 refine jm rfl rfl ?_
 iterate 2 refine qm rfl rfl ?_
 refine qf rfl rfl (by omega) ?_
 refine jm rfl rfl ?_
 refine wN hK ?_; clear hK
 refine uF rfl rfl ?_
 refine WC.skip ?_
 (refine hK _ _ ?_; clear hK)
 (refine WG.seq ?_; intro K hK)
 refine uS rfl fun K hK => ?_
 iterate 4 refine jm rfl rfl ?_
 refine ji rfl rfl (by omega) ?_
 refine wG rfl rfl (g_min rfl (.mk rfl rfl) (.mk rfl rfl) rfl) ?_
 refine WL.want rfl (WL1.callP rfl rfl rfl (.cons (.mk (v := .int _ _) rfl rfl) (.cons (.mk (v := .int _ _) rfl rfl) .nil)) (fun w hw => hcnt w) ?_)
 refine jf rfl rfl (by omega) ?_
 refine wN hK ?_; clear hK
 refine uF rfl rfl ?_
 refine WC.skip ?_
 (refine hK _ _ ?_; clear hK)
 (refine WG.seq ?_; intro K hK)
 refine WC.region rfl ?_
 refine jm rfl rfl ?_
 refine wG rfl rfl (g_build (cs := [_, _]) rfl rfl rfl rfl (.cons (.mk (v := .int _ _) rfl rfl) .nil) rfl rfl rfl) ?_
 refine WL.want rfl (WL1.alloc rfl rfl rfl rfl (fun b6 => ?_))
 refine WL.want rfl (WL1.storeAll rfl rfl (.mk rfl rfl) (.mk rfl rfl) rfl (all1 rfl) (by first | rfl | (simp [Blk.len]; done)) (.head) ?_)
 refine wN hK ?_; clear hK
 refine WG.seqG ?_
 (refine WG.seq ?_; intro K hK)
 refine WC.region rfl ?_
 iterate 2 refine jm rfl rfl ?_
 (refine WL.want rfl (WL1.callN rfl rfl rfl (.cons (.mk (v := .slice _ _ _) rfl rfl) (.cons (.mk (v := .int _ _) rfl rfl) (.cons (.mk (v := .int _ _) rfl rfl) .nil))) (fun w hw => sets_n _ _ _ _ _ w) ?_); rintro _ _ ⟨s1, s2, s3, rfl, rfl⟩)
 refine wN hK ?_; clear hK
 refine WG.block ?_
 intro w1 hw1
 have hit := sets_it (w0 := w) hv (by omega : 1 ≤ k) (by omega) k (pre := []) (A := none) (c := 0) (b1 := s1) (b2 := s2) (b3 := s3) (Nat.zero_add k) (by show 0 ≤ 60; omega) (fun _ => ⟨rfl, rfl⟩)
 have hw2 : H w ([pt s1 29 [.slice none 0 0], pt s2 3 [iv k], pt s3 3 [iv v], vec none 0 0 3 1 []] ++ ((pt b6 DT [iv v, .slice none 0 0] :: dsgA none 0 []) ++ [pt b4 DT [iv 0, .slice none 0 0]])) w1 := by
   have h3 := rowsI_none.h ((hw1.nilvec 3 1).nilvec 29 1)
   exact (Imp.pick (by repeat constructor) (Imp.pick (by repeat constructor) (Imp.pick (by repeat constructor) (Imp.pick (by repeat constructor) (Imp.pick (by repeat constructor) (Imp.pick (by repeat constructor) (Imp.pick (by repeat constructor) (Imp.pick (by repeat constructor) (Imp.nil _))))))))).h h3
 refine wpF_range_sp (ps := [38]) _ _ _ (cmpI b6 v (cmb v k [] 0)) hit rfl ?_ rfl ⟨none, 0, [], rfl, rfl⟩ hw2 (fun x vals M ⟨_, _, _, e, _⟩ => by rw [e]; rfl) ?_ ?_
 · exact .mk rfl rfl
 · rintro rec r D x rest vals M L1 X1 hs1 ⟨A2, c2, hxl, rfl, rfl⟩ ⟨A, c, rs, hall, rfl⟩
   have hrl : rs.length + 1 ≤ 100000 := by
     have := congrArg List.length hall
     rw [List.length_append, List.length_map, List.length_cons] at this
     omega
   have hown : (⟨A2, c2, x⟩ : IRow).own = vec A2 k c2 3 1 (ldv x) := by unfold IRow.own; rw [hxl]
   have hrv : (⟨A2, c2, x⟩ : IRow).v = .slice A2 k c2 := by unfold IRow.v; rw [hxl]
   refine WC.region rfl ?_
   refine jm rfl rfl ?_
   refine WL.nil ?_
   refine ⟨_, .tail .head, ?_⟩
   refine WC.block ?_
   refine WC.region rfl ?_
   refine ja 1 rfl rfl rfl rfl ?_
   refine jl rfl rfl rfl (rd_pt (.tail _ (.tail _ (.tail _ (.head _)))) rfl) ?_
   refine jm rfl rfl ?_
   refine WL.want rfl (WL1.lit (cs := [_]) elRI rfl rfl rfl (.cons (.mk (v := .slice _ _ _) rfl rfl) .nil) rfl (by first | (simp [Value.cells]; done) | fail) rfl rfl (fun b42 => ?_))
   refine WL.want rfl (WL1.append elRI rfl rfl (.mk rfl rfl) (.mk rfl rfl) (.tail (.tail (.tail (.tail (.tail (.head)))))) (fun w hw => Sl.of_vec hw (.head _)) (all1 rfl) (by unfold maxLen; omega) (by omega) (fun A43 c43 => ?_))
   refine ja 1 rfl rfl rfl rfl ?_
   refine WL.want rfl (WL1.store1 rfl rfl (.mk rfl rfl) (.mk (v := .slice _ _ _) rfl rfl) rfl rfl (Nat.le_of_ble_eq_true rfl) (.tail (.tail (.tail (.tail (.tail (.head)))))) ?_)
   refine WL.nil ?_
   refine ⟨_, (by repeat (first | exact .head | apply Swap.tail)), _, ⟨A43, c43, rs ++ [⟨A2, c2, x⟩], by rw [List.map_append, List.append_assoc]; exact hall, rfl⟩, ?_⟩
   unfold dsgA
   rw [List.length_append, List.map_append, List.map_singleton, hrv]
   refine Imp.pick (by repeat constructor) (Imp.pick (by repeat constructor) (Imp.pick (by repeat constructor) (Imp.pick (by repeat constructor) (Imp.trans (M := (⟨A2, c2, x⟩ : IRow).own :: rowsI rs :: X1) ?_ rowsI_new))))
   rw [hown]
   exact Imp.pick (by repeat constructor) (Imp.pick (by repeat constructor) (Imp.sub (.cons _ (.refl _))))
 · rintro D L1 w3 ⟨A, c, rs, hall, rfl⟩ hw3
   refine (show WG _ ⟨46, none, marks [D]⟩ w _ _ _ _ from ?_) w3 hw3
   (refine WG.seq ?_; intro K hK)
   refine WC.region rfl ?_
   refine wG rfl rfl (g_loadA rfl (.mk rfl rfl) rfl rfl (rdr_pt (.tail _ (.tail _ (.tail _ (.tail _ (.tail _ (.head _)))))) (fun j u h => by simpa using h))) ?_
   refine WL.want rfl (WL1.storeAll rfl rfl (.mk rfl rfl) (.mk rfl rfl) rfl (all1 rfl) (by first | rfl | (simp [Blk.len]; done)) (.tail (.tail (.tail (.tail (.tail (.tail (.tail (.tail (.head))))))))) ?_)
   refine jm rfl rfl ?_
   refine wN hK ?_; clear hK
   refine WG.of ?_
   refine WC.ret ?_
   rw [List.append_nil] at hall
   exact fun w' hw' => ⟨_, [D], dsgA A c rs ++ [pt b4 DT [iv v, .slice A rs.length c]], rfl, (Imp.pick (by repeat constructor) (Imp.pick (by repeat constructor) (Imp.pick (by repeat constructor) (Imp.pick (by repeat constructor) (Imp.nil _))))).h hw', _, .cell rfl rfl rfl rfl (by repeat constructor) (.tmp rfl rfl .nil), fun w'' hw'' => ⟨_, _, rfl, hw''.sub (.cons_cons _ (.cons_cons _ (List.nil_sublist _))), A, c, rs, hall, rfl, rfl⟩⟩
abbrev ils (rs : List IRow) : List (List Nat) := rs.map IRow.l
theorem ils_at {rs : List IRow} {i : Nat} (h : i < rs.length) : nth (ils rs) i = (nth rs i).l := nth_map IRow.l h
structure Dsg (v k : Nat) (gs : List (List Nat)) : Prop where
 v2 : 2 ≤ v
 v60 : v ≤ 60
 n1 : 1 ≤ gs.length
 n4 : gs.length ≤ 4096
 k2 : 2 ≤ k
 k60 : k ≤ 60
 len : ∀ i, i < gs.length → (nth gs i).length = k
 lt : ∀ i, i < gs.length → ∀ j, j < k → nth (nth gs i) j < v
 inc : ∀ i, i < gs.length → ∀ j, j + 1 < k → nth (nth gs i) j < nth (nth gs i) (j + 1)
def incB : List Nat → Bool
 | a :: b :: l => Nat.blt a b && incB (b :: l)
 | _ => true
def dsgB (v k : Nat) (gs : List (List Nat)) : Bool := Nat.ble 2 v && Nat.ble v 60 && Nat.ble 1 gs.length && Nat.ble gs.length 4096 && Nat.ble 2 k && Nat.ble k 60 && gs.all fun g => Nat.beq g.length k && (g.all fun x => Nat.blt x v) && incB g
theorem incB_at : ∀ {l : List Nat}, incB l = true → ∀ j, j + 1 < l.length → nth l j < nth l (j + 1)
 | a :: b :: l, h, 0, _ => by
   unfold incB at h
   rw [Bool.and_eq_true] at h
   exact Nat.lt_of_not_le fun h' => by have := h.1; rw [Nat.blt] at this; have := Nat.le_of_ble_eq_true this; exact absurd h' (by show ¬ (b ≤ a); omega)
 | a :: b :: l, h, j + 1, hj => by
   unfold incB at h
   rw [Bool.and_eq_true] at h
   exact incB_at (l := b :: l) h.2 j (by simpa using hj)
 | [a], _, j, hj => by simp at hj
 | [], _, j, hj => by simp at hj
theorem dsgB_spec {v k : Nat} {gs : List (List Nat)} (h : dsgB v k gs = true) : Dsg v k gs := by
 unfold dsgB at h
 simp only [Bool.and_eq_true, List.all_eq_true, Nat.beq_eq] at h
 obtain ⟨⟨⟨⟨⟨⟨h1, h2⟩, h3⟩, h4⟩, h5⟩, h6⟩, h7⟩ := h
 have g := fun i (hi : i < gs.length) => h7 (nth gs i) (nth_mem hi)
 refine ⟨Nat.le_of_ble_eq_true h1, Nat.le_of_ble_eq_true h2, Nat.le_of_ble_eq_true h3, Nat.le_of_ble_eq_true h4, Nat.le_of_ble_eq_true h5, Nat.le_of_ble_eq_true h6, fun i hi => (g i hi).1.1, fun i hi j hj => ?_, fun i hi j hj => ?_⟩
 · have := (g i hi).1.2 (nth (nth gs i) j) (nth_mem (by rw [(g i hi).1.1]; exact hj))
   rw [Nat.blt] at this
   exact Nat.le_of_ble_eq_true this
 · exact incB_at (g i hi).2 j (by rw [(g i hi).1.1]; exact hj)
theorem Dsg.row {v k : Nat} {rs : List IRow} (h : Dsg v k (ils rs)) {i : Nat} (hi : i < rs.length) : (nth rs i).l.length = k ∧ (∀ j, j < k → nth (nth rs i).l j < v) ∧ ∀ j, j + 1 < k → nth (nth rs i).l j < nth (nth rs i).l (j + 1) := by
 have e := ils_at hi
 have hl : i < (ils rs).length := by rw [List.length_map]; exact hi
 refine ⟨by rw [← e]; exact h.len i hl, fun j hj => by rw [← e]; exact h.lt i hl j hj, fun j hj => by rw [← e]; exact h.inc i hl j hj⟩
theorem Dsg.cnt {v k : Nat} {rs : List IRow} (h : Dsg v k (ils rs)) : 1 ≤ rs.length ∧ rs.length ≤ 4096 := by
 have h1 := h.n1
 have h2 := h.n4
 rw [List.length_map] at h1 h2
 exact ⟨h1, h2⟩
abbrev dsgV (v : Nat) (A : Option Addr) (c : Nat) (rs : List IRow) : Value := .agg #[iv v, .slice A rs.length c]
set_option maxHeartbeats 1000000 in
theorem formed_e {v k : Nat} {A : Option Addr} {c : Nat} {rs : List IRow} (w : World) (hd : Dsg v k (ils rs)) (hm : IMat w (.slice A rs.length c) rs) :
   Calls Tryz.prog 59 #[dsgV v A c rs] w fun e w' => e = .returned (.bool true) ∧ Below w.heap.size w w' := by
 have hs := hm.1
 have hcn := hd.cnt
 have hv2 := hd.v2
 have hv60 := hd.v60
 have hk2 := hd.k2
 have hk60 := hd.k60
 have h0 := hd.row (i := 0) (by omega)
 have h0l := h0.1
 refine calls_wc (args := [dsgV v A c rs]) [2] [] Tryz.func59 rfl Tryz.ntmps59 rfl rfl rfl rfl (H.refl _) ?_
 refine uS rfl fun K hK => ?_
 refine WL.want rfl (WL1.box rfl rfl (.mk (v := .agg _) rfl rfl) rfl (fun b1 => ?_))
 refine jm rfl rfl ?_
 refine wN hK ?_; clear hK
 refine WC.seq fun K hK => ?_
 refine uS rfl fun K hK => ?_
 refine ja 0 rfl rfl rfl rfl ?_
 refine jl rfl rfl rfl (rd_pt (.head _) rfl) ?_
 refine jf rfl rfl (by omega) ?_
 refine jm rfl rfl ?_
 refine qa 0 rfl rfl rfl rfl ?_
 refine ql rfl rfl rfl (rd_pt (.head _) rfl) ?_
 refine qf rfl rfl (by omega) ?_
 iterate 2 refine jm rfl rfl ?_
 refine qa 1 rfl rfl rfl rfl ?_
 refine ql rfl rfl rfl (rd_pt (.head _) rfl) ?_
 refine qn rfl rfl rfl ?_
 refine qf rfl rfl (by omega) ?_
 iterate 2 refine jm rfl rfl ?_
 refine qa 1 rfl rfl rfl rfl ?_
 refine ql rfl rfl rfl (rd_pt (.head _) rfl) ?_
 refine qn rfl rfl rfl ?_
 refine qf rfl rfl (by omega) ?_
 iterate 2 refine jm rfl rfl ?_
 refine qa 1 rfl rfl rfl rfl ?_
 refine ql rfl rfl rfl (rd_pt (.head _) rfl) ?_
 refine qW rfl (WL1.give rfl (g_indexAddr (sz := 1) rfl (.mk rfl rfl) (.mk rfl rfl) rfl rfl (show _ = ((0 : Nat) : Int) from rfl) (by omega) (fun _ _ => sl_some hs (by omega))) ?_)
 refine ql rfl rfl rfl (rd_sl hs (get1 (by omega))) ?_
 refine qn rfl rfl rfl ?_
 refine qf rfl rfl (by omega) ?_
 refine jm rfl rfl ?_
 refine wN hK ?_; clear hK
 refine uF rfl rfl ?_
 refine WC.skip ?_
 (refine hK _ _ ?_; clear hK)
 refine WC.seq fun K hK => ?_
 refine uS rfl fun K hK => ?_
 refine ja 1 rfl rfl rfl rfl ?_
 refine jl rfl rfl rfl (rd_pt (.head _) rfl) ?_
 refine jn rfl rfl rfl ?_
 refine jm rfl rfl ?_
 refine wN hK ?_; clear hK
 refine WC.block ?_
 refine WC.loop (1208925819614354296799348) (fun i : Nat => [(38, iv i)]) (fun _ => [pt b1 DT [iv v, .slice A rs.length c]]) (fun i => i ≤ rs.length) (fun i => rs.length - i) 0 ⟨rfl, trivial⟩ (.refl _) (by omega) ?_
 intro i U hi
 by_cases hlt : i < rs.length
 · obtain ⟨hrl, hrv, hri⟩ := hd.row hlt
   have hrs := hm.row hlt
   unfold IRow.v at hrs
   refine uS rfl fun K hK => ?_
   refine jt rfl rfl (by omega) ?_
   refine wN hK ?_; clear hK
   refine WC.seq fun K hK => ?_
   refine uT rfl rfl ?_
   refine WC.skip ?_
   (refine hK _ _ ?_; clear hK)
   refine WC.seq fun K hK => ?_
   refine WC.block ?_
   refine uS rfl fun K hK => ?_
   refine wG rfl rfl (g_indexAddr (sz := 1) rfl (.mk rfl rfl) (.mk rfl rfl) rfl rfl rfl (by omega) (fun _ _ => sl_some hs (by omega))) ?_
   refine jl rfl rfl rfl (rd_sl hs (get1 (by omega))) ?_
   refine jm rfl rfl ?_
   refine wN hK ?_; clear hK
   refine WC.seq fun K hK => ?_
   refine uS rfl fun K hK => ?_
   refine jm rfl rfl ?_
   refine jn rfl rfl rfl ?_
   refine ja 1 rfl rfl rfl rfl ?_
   refine jl rfl rfl rfl (rd_pt (.head _) rfl) ?_
   refine wG rfl rfl (g_indexAddr (sz := 1) rfl (.mk rfl rfl) (.mk rfl rfl) rfl rfl (show _ = ((0 : Nat) : Int) from rfl) (by omega) (fun _ _ => sl_some hs (by omega))) ?_
   refine jl rfl rfl rfl (rd_sl hs (get1 (by omega))) ?_
   refine jn rfl rfl rfl ?_
   refine jf rfl rfl (by omega) ?_
   refine wN hK ?_; clear hK
   refine uF rfl rfl ?_
   refine WC.skip ?_
   (refine hK _ _ ?_; clear hK)
   refine uS rfl fun K hK => ?_
   refine jm rfl rfl ?_
   refine jn rfl rfl rfl ?_
   refine jm rfl rfl ?_
   refine wN hK ?_; clear hK
   refine WC.block ?_
   refine WC.loop (604462905303714959982692) (fun j : Nat => [(52, iv j)]) (fun _ => [pt b1 DT [iv v, .slice A rs.length c]]) (fun j => j ≤ k) (fun j => k - j) 0 ⟨rfl, trivial⟩ (.refl _) (by omega) ?_
   intro j U2 hj
   by_cases hlt2 : j < k
   · have hx := hrv j hlt2
     have hg := ldv_get (ld := (nth rs i).l) (k := j) (by omega)
     by_cases hj0 : j = 0
     · subst hj0
       refine uS rfl fun K hK => ?_
       refine jt rfl rfl (by omega) ?_
       refine wN hK ?_; clear hK
       refine WC.seq fun K hK => ?_
       refine uT rfl rfl ?_
       refine WC.skip ?_
       (refine hK _ _ ?_; clear hK)
       refine WC.seq fun K hK => ?_
       refine WC.block ?_
       refine uS rfl fun K hK => ?_
       refine jm rfl rfl ?_
       refine wG rfl rfl (g_indexAddr (sz := 1) rfl (.mk rfl rfl) (.mk rfl rfl) rfl rfl (show _ = ((0 : Nat) : Int) from rfl) (by omega) (fun _ _ => sl_some hrs (by omega))) ?_
       refine jl rfl rfl rfl (rd_sl hrs hg) ?_
       iterate 2 refine jm rfl rfl ?_
       refine wN hK ?_; clear hK
       refine uS rfl fun K hK => ?_
       refine jm rfl rfl ?_
       refine jf rfl rfl (by omega) ?_
       refine jm rfl rfl ?_
       refine qm rfl rfl ?_
       refine qa 0 rfl rfl rfl rfl ?_
       refine ql rfl rfl rfl (rd_pt (.head _) rfl) ?_
       refine qf rfl rfl (by omega) ?_
       iterate 2 refine jm rfl rfl ?_
       refine qm rfl rfl ?_
       refine qf rfl rfl (by omega) ?_
       refine qm rfl rfl ?_
       iterate 7 refine ut rfl rfl ?_
       refine qm rfl rfl ?_
       refine jm rfl rfl ?_
       refine wN hK ?_; clear hK
       refine uF rfl rfl ?_
       refine WC.skip ?_
       (refine hK _ _ ?_; clear hK)
       refine WC.region rfl ?_
       refine ji rfl rfl (by omega) ?_
       refine jm rfl rfl ?_
       refine WL.nil ?_
       exact ⟨0 + 1, (by repeat (first | with_reducible exact .refl _ _ | refine .set rfl ?_ | refine .put rfl ?_ | refine .sets rfl ?_ | refine .hav rfl ?_ | exact .refl _ _)), ⟨rfl, trivial⟩, .refl _, by omega, by omega⟩
     · obtain ⟨q, rfl⟩ : ∃ q, j = q + 1 := ⟨j - 1, by omega⟩
       have hg2 := ldv_get (ld := (nth rs i).l) (k := q) (by omega)
       have hq : (((q + 1 : Nat) : Int) - 1).toNat = q := by omega
       rw [← hq] at hg2
       have hy2 : nth (nth rs i).l (((q + 1 : Nat) : Int) - 1).toNat < nth (nth rs i).l (q + 1) := by rw [hq]; exact hri q (by omega)
       refine uS rfl fun K hK => ?_
       refine jt rfl rfl (by omega) ?_
       refine wN hK ?_; clear hK
       refine WC.seq fun K hK => ?_
       refine uT rfl rfl ?_
       refine WC.skip ?_
       (refine hK _ _ ?_; clear hK)
       refine WC.seq fun K hK => ?_
       refine WC.block ?_
       refine uS rfl fun K hK => ?_
       refine jm rfl rfl ?_
       refine wG rfl rfl (g_indexAddr (sz := 1) rfl (.mk rfl rfl) (.mk rfl rfl) rfl rfl rfl (by omega) (fun _ _ => sl_some hrs (by omega))) ?_
       refine jl rfl rfl rfl (rd_sl hrs hg) ?_
       iterate 2 refine jm rfl rfl ?_
       refine wN hK ?_; clear hK
       refine uS rfl fun K hK => ?_
       refine jm rfl rfl ?_
       refine jf rfl rfl (by omega) ?_
       refine jm rfl rfl ?_
       refine qm rfl rfl ?_
       refine qa 0 rfl rfl rfl rfl ?_
       refine ql rfl rfl rfl (rd_pt (.head _) rfl) ?_
       refine qf rfl rfl (by omega) ?_
       iterate 2 refine jm rfl rfl ?_
       refine qm rfl rfl ?_
       refine qt rfl rfl (by omega) ?_
       iterate 3 refine qm rfl rfl ?_
       refine qi rfl rfl (by omega) ?_
       refine qW rfl (WL1.give rfl (g_indexAddr (sz := 1) rfl (.mk rfl rfl) (.mk rfl rfl) rfl rfl (Int.toNat_of_nonneg (by omega)).symm (by omega) (fun _ _ => sl_some hrs (by omega))) ?_)
       refine ql rfl rfl rfl (rd_sl hrs hg2) ?_
       refine qm rfl rfl ?_
       refine qf rfl rfl (by omega) ?_
       refine qm rfl rfl ?_
       refine jm rfl rfl ?_
       refine wN hK ?_; clear hK
       refine uF rfl rfl ?_
       refine WC.skip ?_
       (refine hK _ _ ?_; clear hK)
       refine WC.region rfl ?_
       refine ji rfl rfl (by omega) ?_
       refine jm rfl rfl ?_
       refine WL.nil ?_
       exact ⟨q + 1 + 1, (by repeat (first | with_reducible exact .refl _ _ | refine .set rfl ?_ | refine .put rfl ?_ | refine .sets rfl ?_ | refine .hav rfl ?_ | exact .refl _ _)), ⟨rfl, trivial⟩, .refl _, by omega, by omega⟩
   · obtain rfl : j = k := by omega
     refine uS rfl fun K hK => ?_
     refine jf rfl rfl (by omega) ?_
     refine wN hK ?_; clear hK
     refine WC.seq fun K hK => ?_
     refine uF rfl rfl ?_
     refine WC.exit ?_
     (clear hK; refine hK _ _ ?_; clear hK)
     refine WC.region rfl ?_
     refine ji rfl rfl (by omega) ?_
     refine jm rfl rfl ?_
     refine WL.nil ?_
     exact ⟨i + 1, (by repeat (first | with_reducible exact .refl _ _ | refine .set rfl ?_ | refine .put rfl ?_ | refine .sets rfl ?_ | refine .hav rfl ?_ | exact .refl _ _)), ⟨rfl, trivial⟩, .refl _, by omega, by omega⟩
 · obtain rfl : i = rs.length := by omega
   refine uS rfl fun K hK => ?_
   refine jf rfl rfl (by omega) ?_
   refine wN hK ?_; clear hK
   refine WC.seq fun K hK => ?_
   refine uF rfl rfl ?_
   refine WC.exit ?_
   (clear hK; refine hK _ _ ?_; clear hK)
   refine uS rfl fun K hK => ?_
   refine jm rfl rfl ?_
   refine wN hK ?_; clear hK
   refine WC.ret ?_
   exact fun w' hw' => ⟨rfl, hw'.1⟩
def prR (l g : List Nat) : List (Nat × Nat) := l.flatMap fun a => g.map fun b => (a, b)
def prAll (gs : List (List Nat)) : List (Nat × Nat) := gs.flatMap fun g => prR g g
def cnS : List (Nat × Nat) → Nat → Nat → Nat
 | [], _, _ => 0
 | p :: P, a, b => (if p.1 = a ∧ p.2 = b then 1 else 0) + cnS P a b
def cntN : List Nat → Nat → Nat
 | [], _ => 0
 | x :: l, a => cond (Nat.beq x a) 1 0 + cntN l a
def cn3 : List (List Nat) → Nat → Nat → Nat
 | [], _, _ => 0
 | g :: gs, a, b => cntN g a * cntN g b + cn3 gs a b
theorem cnS_app (P Q : List (Nat × Nat)) (a b : Nat) : cnS (P ++ Q) a b = cnS P a b + cnS Q a b := by
 induction P with
 | nil => simp [cnS]
 | cons p P ih => rw [List.cons_append, cnS, cnS, ih]; omega
theorem cnS_map (x : Nat) (g : List Nat) (a b : Nat) : cnS (g.map fun y => (x, y)) a b = if x = a then cntN g b else 0 := by
 induction g with
 | nil => simp [cnS, cntN]
 | cons y g ih =>
   rw [List.map_cons, cnS, ih, cntN]
   by_cases h : x = a
   · by_cases h2 : y = b
     · subst h; subst h2; simp
     · have : Nat.beq y b = false := by rw [Bool.eq_false_iff]; intro h'; exact h2 (Nat.eq_of_beq_eq_true h')
       simp [h, h2, this]
   · simp [h]
theorem cnS_prR (l g : List Nat) (a b : Nat) : cnS (prR l g) a b = cntN l a * cntN g b := by
 induction l with
 | nil => simp [prR, cnS, cntN]
 | cons x l ih =>
   have : prR (x :: l) g = (g.map fun y => (x, y)) ++ prR l g := rfl
   rw [this, cnS_app, ih, cnS_map, cntN, Nat.add_mul]
   by_cases h : x = a
   · subst h; simp
   · have : Nat.beq x a = false := by rw [Bool.eq_false_iff]; intro h'; exact h (Nat.eq_of_beq_eq_true h')
     simp [h, this]
theorem cnS_all (gs : List (List Nat)) (a b : Nat) : cnS (prAll gs) a b = cn3 gs a b := by
 induction gs with
 | nil => rfl
 | cons g gs ih =>
   have : prAll (g :: gs) = prR g g ++ prAll gs := rfl
   rw [this, cnS_app, ih, cnS_prR, cn3]
theorem take_snoc {α : Type} [Inhabited α] {l : List α} {k : Nat} (h : k < l.length) : l.take (k + 1) = l.take k ++ [nth l k] := by
 rw [List.take_succ_eq_append_getElem h, nth_eq h]
structure Bal (v : Nat) (gs : List (List Nat)) (r lam : Nat) : Prop where
 at_ : ∀ a, a < v → ∀ b, b < v → cn3 gs a b = if a = b then r else lam
 pos : 1 ≤ lam
def balB (v : Nat) (gs : List (List Nat)) (r lam : Nat) : Bool := Nat.ble 1 lam && (List.range v).all fun a => (List.range v).all fun b => Nat.beq (cn3 gs a b) (cond (Nat.beq a b) r lam)
theorem balB_spec {v r lam : Nat} {gs : List (List Nat)} (h : balB v gs r lam = true) : Bal v gs r lam := by
 unfold balB at h
 simp only [Bool.and_eq_true, List.all_eq_true, List.mem_range] at h
 refine ⟨fun a ha b hb => ?_, Nat.le_of_ble_eq_true h.1⟩
 have := Nat.eq_of_beq_eq_true (h.2 a ha b hb)
 rw [this]
 by_cases e : a = b
 · subst e; simp
 · have e' : Nat.beq a b = false := by rw [Bool.eq_false_iff]; intro h'; exact e (Nat.eq_of_beq_eq_true h')
   simp [e, e']
def mcl (P : List (Nat × Nat)) : List Value := (List.range 3600).map fun q => iv (cnS P (q / 60) (q % 60))
theorem mcl_len (P : List (Nat × Nat)) : (mcl P).length = 3600 := by simp [mcl]
theorem mcl_get (P : List (Nat × Nat)) {a b : Nat} (ha : a < 60) (hb : b < 60) : (mcl P)[a * 60 + b]? = some (iv (cnS P a b)) := by
 unfold mcl
 rw [List.getElem?_map, List.getElem?_range (by omega), Option.map_some, show (a * 60 + b) / 60 = a from by omega, show (a * 60 + b) % 60 = b from by omega]
theorem mcl_set (P : List (Nat × Nat)) {a b : Nat} (ha : a < 60) (hb : b < 60) : (mcl P).set (a * 60 + b) (iv ((cnS P a b : Nat) + 1)) = mcl (P ++ [(a, b)]) := by
 apply List.ext_getElem?
 intro q
 rw [List.getElem?_set, mcl_len]
 by_cases hq : q < 3600
 · have hM : ∀ P, (mcl P)[q]? = some (iv (cnS P (q / 60) (q % 60))) := fun P => by unfold mcl; rw [List.getElem?_map, List.getElem?_range hq]; rfl
   rw [hM, hM, cnS_app]
   by_cases e : a * 60 + b = q
   · rw [if_pos e, if_pos (by omega), show q / 60 = a from by omega, show q % 60 = b from by omega]
     simp [cnS]
   · rw [if_neg e]
     have : ¬ (a = q / 60 ∧ b = q % 60) := fun ⟨h3, h4⟩ => e (by omega)
     simp [cnS, this]
 · have hN : ∀ P, (mcl P)[q]? = none := fun P => List.getElem?_eq_none (by rw [mcl_len]; omega)
   rw [hN, hN, if_neg (by omega)]
theorem cntN_le (l : List Nat) (a : Nat) : cntN l a ≤ l.length := by
 induction l with
 | nil => simp [cntN]
 | cons x l ih => rw [cntN, List.length_cons]; cases Nat.beq x a <;> simp <;> omega
theorem cn3_le {gs : List (List Nat)} (h : ∀ g ∈ gs, g.length ≤ 60) (a b : Nat) : cn3 gs a b ≤ 3600 * gs.length := by
 induction gs with
 | nil => simp [cn3]
 | cons g gs ih =>
   have h1 := ih fun g hg => h g (by simp [hg])
   have h2 := h g (by simp)
   have h3 := cntN_le g a
   have h4 := cntN_le g b
   have h5 : cntN g a * cntN g b ≤ 60 * 60 := Nat.mul_le_mul (by omega) (by omega)
   rw [cn3, List.length_cons]
   omega
theorem cnS_bnd {gs : List (List Nat)} {l g : List Nat} {x a b : Nat} (h : ∀ g ∈ gs, g.length ≤ 60) (hn : gs.length ≤ 4096) (hl : l.length ≤ 60) (hg : g.length ≤ 60) (l2 : List Nat) (hl2 : l2.length ≤ 60) : cnS (prAll gs ++ prR l g ++ l2.map fun y => (x, y)) a b ≤ 100000000 := by
 rw [cnS_app, cnS_app, cnS_all, cnS_prR, cnS_map]
 have h1 := cn3_le h a b
 have h5 : cntN l a * cntN g b ≤ 60 * 60 := Nat.mul_le_mul (Nat.le_trans (cntN_le _ _) hl) (Nat.le_trans (cntN_le _ _) hg)
 have h6 := cntN_le l2 b
 split <;> omega
abbrev CTT : TypeId := 131
theorem ct_zero : (Tryz.prog.info? CTT).map (·.zero) = some (some (.agg (mcl []).toArray)) := by kernel_rfl
theorem ct_cells : (Value.agg (mcl []).toArray).cells = (mcl []).toArray := by unfold Value.cells; rfl
set_option maxHeartbeats 1000000 in
theorem check_d {v k r lam : Nat} {A : Option Addr} {c : Nat} {rs : List IRow} (w : World) (hd : Dsg v k (ils rs)) (hB : Bal v (ils rs) r lam) (hm : IMat w (.slice A rs.length c) rs) :
   Calls Tryz.prog 21 #[dsgV v A c rs] w fun e w' => e = .returned (.tuple #[iv r, iv lam, iv 0]) ∧ Below w.heap.size w w' := by
 have hs := hm.1
 have hcn := hd.cnt
 have hv2 := hd.v2
 have hv60 := hd.v60
 have hk2 := hd.k2
 have hk60 := hd.k60
 have hfm := fun w' (hb : Below w.heap.size w w') => formed_e w' hd (hm.below hb)
 refine calls_wc (args := [dsgV v A c rs]) [2, 3, 4] [] Tryz.func21 rfl Tryz.ntmps21 rfl rfl rfl rfl (H.refl _) ?_
 refine uS rfl fun K hK => ?_
 refine WL.want rfl (WL1.box rfl rfl (.mk (v := .agg _) rfl rfl) rfl (fun b1 => ?_))
 iterate 3 refine jm rfl rfl ?_
 refine wN hK ?_; clear hK
 refine WC.seq fun K hK => ?_
 refine uS rfl fun K hK => ?_
 refine wG rfl rfl (g_loadA rfl (.mk rfl rfl) rfl rfl (rdr_pt (.head _) (fun j u h => by simpa using h))) ?_
 refine WL.want rfl (WL1.callP rfl rfl rfl (.cons (.mk (v := .agg _) rfl rfl) .nil) (fun w hw => hfm w hw.1) ?_)
 refine jm rfl rfl ?_
 refine wN hK ?_; clear hK
 refine uF rfl rfl ?_
 refine WC.skip ?_
 (refine hK _ _ ?_; clear hK)
 refine WC.seq ?_
 intro K hK
 refine WC.region rfl ?_
 refine WL.want rfl (WL1.alloc rfl rfl ct_zero ct_cells (fun b5 => ?_))
 refine wN hK ?_; clear hK
 refine WC.seq fun K hK => ?_
 refine uS rfl fun K hK => ?_
 refine ja 1 rfl rfl rfl rfl ?_
 refine jl rfl rfl rfl (rd_pt (.tail _ (.head _)) rfl) ?_
 refine jn rfl rfl rfl ?_
 refine jm rfl rfl ?_
 refine wN hK ?_; clear hK
 refine WC.block ?_
 refine WC.loop (1125899898456704) (fun i : Nat => [(23, iv i)]) (fun i => [pt b5 CTT (mcl (prAll ((ils rs).take i))), pt b1 DT [iv v, .slice A rs.length c]]) (fun i => i ≤ rs.length) (fun i => rs.length - i) 0 ⟨rfl, trivial⟩ (.refl _) (by omega) ?_
 intro i U hi
 by_cases hlt : i < rs.length
 · obtain ⟨hrl, hrv, -⟩ := hd.row hlt
   have hrs := hm.row hlt
   unfold IRow.v at hrs
   refine uS rfl fun K hK => ?_
   refine jt rfl rfl (by omega) ?_
   refine wN hK ?_; clear hK
   refine WC.seq fun K hK => ?_
   refine uT rfl rfl ?_
   refine WC.skip ?_
   (refine hK _ _ ?_; clear hK)
   refine WC.seq fun K hK => ?_
   refine WC.block ?_
   refine uS rfl fun K hK => ?_
   refine wG rfl rfl (g_indexAddr (sz := 1) rfl (.mk rfl rfl) (.mk rfl rfl) rfl rfl rfl (by omega) (fun _ _ => sl_some hs (by omega))) ?_
   refine jl rfl rfl rfl (rd_sl hs (get1 (by omega))) ?_
   refine jm rfl rfl ?_
   refine wN hK ?_; clear hK
   refine uS rfl fun K hK => ?_
   refine jm rfl rfl ?_
   refine jn rfl rfl rfl ?_
   refine jm rfl rfl ?_
   refine wN hK ?_; clear hK
   refine WC.block ?_
   refine WC.loop (562949416552960) (fun j : Nat => [(29, iv j)]) (fun j => [pt b5 CTT (mcl (prAll ((ils rs).take i) ++ prR ((nth rs i).l.take j) (nth rs i).l)), pt b1 DT [iv v, .slice A rs.length c]]) (fun j => j ≤ k) (fun j => k - j) 0 ⟨rfl, trivial⟩ (by rw [show prR ((nth rs i).l.take 0) (nth rs i).l = [] from rfl, List.append_nil]; exact .refl _) (by omega) ?_
   intro j U2 hj
   by_cases hlt2 : j < k
   · have hx := hrv j hlt2
     have hg := ldv_get (ld := (nth rs i).l) (k := j) (by omega)
     refine uS rfl fun K hK => ?_
     refine jt rfl rfl (by omega) ?_
     refine wN hK ?_; clear hK
     refine WC.seq fun K hK => ?_
     refine uT rfl rfl ?_
     refine WC.skip ?_
     (refine hK _ _ ?_; clear hK)
     refine WC.seq fun K hK => ?_
     refine WC.block ?_
     refine uS rfl fun K hK => ?_
     refine wG rfl rfl (g_indexAddr (sz := 1) rfl (.mk rfl rfl) (.mk rfl rfl) rfl rfl rfl (by omega) (fun _ _ => sl_some hrs (by omega))) ?_
     refine jl rfl rfl rfl (rd_sl hrs hg) ?_
     refine jm rfl rfl ?_
     refine wN hK ?_; clear hK
     refine uS rfl fun K hK => ?_
     refine jm rfl rfl ?_
     refine jn rfl rfl rfl ?_
     refine jm rfl rfl ?_
     refine wN hK ?_; clear hK
     refine WC.block ?_
     refine WC.loop (281440616974336) (fun q : Nat => [(35, iv q)]) (fun q => [pt b5 CTT (mcl (prAll ((ils rs).take i) ++ prR ((nth rs i).l.take j) (nth rs i).l ++ ((nth rs i).l.take q).map fun b => (nth (nth rs i).l j, b))), pt b1 DT [iv v, .slice A rs.length c]]) (fun q => q ≤ k) (fun q => k - q) 0 ⟨rfl, trivial⟩ (by rw [List.take_zero, List.map_nil, List.append_nil]; exact .refl _) (by omega) ?_
     intro q U3 hq
     by_cases hlt3 : q < k
     · have hx2 := hrv q hlt3
       have hg2 := ldv_get (ld := (nth rs i).l) (k := q) (by omega)
       obtain ⟨P, hP⟩ : ∃ P, P = prAll ((ils rs).take i) ++ prR ((nth rs i).l.take j) (nth rs i).l ++ ((nth rs i).l.take q).map fun b => (nth (nth rs i).l j, b) := ⟨_, rfl⟩
       have hP2 : prAll ((ils rs).take i) ++ prR ((nth rs i).l.take j) (nth rs i).l ++ ((nth rs i).l.take (q + 1)).map (fun b => (nth (nth rs i).l j, b)) = P ++ [(nth (nth rs i).l j, nth (nth rs i).l q)] := by
         rw [hP, take_snoc (by omega), List.map_append, ← List.append_assoc]; rfl
       have hcb : cnS P (nth (nth rs i).l j) (nth (nth rs i).l q) ≤ 100000000 := by
         rw [hP]
         refine cnS_bnd (fun g hg => ?_) (by rw [List.length_take, List.length_map]; omega) (by rw [List.length_take]; omega) (by omega) _ (by rw [List.length_take]; omega)
         obtain ⟨z, hz, rfl⟩ := List.mem_map.1 (List.mem_of_mem_take hg)
         obtain ⟨y, hy, rfl⟩ := List.getElem_of_mem hz
         rw [← nth_eq hy, (hd.row hy).1]
         exact hk60
       rw [← hP]
       clear hP
       have hml := mcl_len P
       have hix : ∀ a b : Nat, 0 + (0 + a * 60 + b * 1) = a * 60 + b := fun a b => by omega
       have hmg := mcl_get P (a := nth (nth rs i).l j) (b := nth (nth rs i).l q) (by omega) (by omega)
       have hms := mcl_set P (a := nth (nth rs i).l j) (b := nth (nth rs i).l q) (by omega) (by omega)
       rw [← hix] at hmg hms
       generalize cnS P (nth (nth rs i).l j) (nth (nth rs i).l q) = s at hcb hmg hms
       generalize nth (nth rs i).l j = a at *
       generalize nth (nth rs i).l q = b at *
       refine uS rfl fun K hK => ?_
       refine jt rfl rfl (by omega) ?_
       refine wN hK ?_; clear hK
       refine WC.seq fun K hK => ?_
       refine uT rfl rfl ?_
       refine WC.skip ?_
       (refine hK _ _ ?_; clear hK)
       refine WC.seq fun K hK => ?_
       refine WC.block ?_
       refine uS rfl fun K hK => ?_
       refine wG rfl rfl (g_indexAddr (sz := 1) rfl (.mk rfl rfl) (.mk rfl rfl) rfl rfl rfl (by omega) (fun _ _ => sl_some hrs (by omega))) ?_
       refine jl rfl rfl rfl (rd_sl hrs hg2) ?_
       refine jm rfl rfl ?_
       refine wN hK ?_; clear hK
       refine WC.untilL [8] rfl (by kernel_rfl) ?_
       refine uP 0 rfl (by decide +kernel) (.inr (iS (by repeat constructor))) rfl rfl ?_
       refine uP 1 rfl (by decide +kernel) (.inr (iS (by repeat constructor))) rfl rfl ?_
       refine uG 2 rfl (by decide +kernel) (.inr (iS (by repeat constructor))) rfl ⟨rfl, g_indexAddrA (sz := 60) rfl (.mk rfl rfl) (.mk rfl rfl) rfl rfl rfl (by omega) (fun _ _ => rfl)⟩ ?_
       refine uG 3 rfl (by decide +kernel) (.inr (iS (by repeat constructor))) rfl ⟨rfl, g_indexAddrA (sz := 1) rfl (.mk rfl rfl) (.mk rfl rfl) rfl rfl rfl (by omega) (fun _ _ => rfl)⟩ ?_
       refine uB 4 rfl (by decide +kernel) (iS (by repeat constructor)) rfl (Gl rfl rfl (rd_pt (by repeat constructor) hmg)) ?_
       refine uG 5 rfl (by decide +kernel) (.inr (iS (by repeat constructor))) rfl (Gi rfl (by omega)) ?_
       refine uG 6 rfl (by decide +kernel) (.inr (iS (by repeat constructor))) rfl ⟨rfl, g_indexAddrA (sz := 60) rfl (.mk rfl rfl) (.mk rfl rfl) rfl rfl rfl (by omega) (fun _ _ => rfl)⟩ ?_
       refine uG 7 rfl (by decide +kernel) (.inr (iS (by repeat constructor))) rfl ⟨rfl, g_indexAddrA (sz := 1) rfl (.mk rfl rfl) (.mk rfl rfl) rfl rfl rfl (by omega) (fun _ _ => rfl)⟩ ?_
       refine WB.one 8 (by decide +kernel) rfl rfl ?_
       refine WL1.store1 rfl rfl (.mk rfl rfl) (.mk (v := .int _ _) rfl rfl) rfl rfl (by first | omega | (simp; done) | (simp; omega)) (.head) ?_
       refine WL.nil ?_
       refine ⟨.inl (by decide +kernel), ?_⟩
       refine WB.done (by decide +kernel) ?_
       (refine hK _ _ ?_; clear hK)
       refine WC.region rfl ?_
       refine ji rfl rfl (by omega) ?_
       refine jm rfl rfl ?_
       refine WL.nil ?_
       refine ⟨q + 1, (by repeat (first | with_reducible exact .refl _ _ | refine .set rfl ?_ | refine .put rfl ?_ | refine .sets rfl ?_ | refine .hav rfl ?_ | exact .refl _ _)), ⟨rfl, trivial⟩, ?_, by omega, by omega⟩
       show List.Sublist [pt b5 CTT (mcl _), pt b1 DT _] _
       rw [hP2, ← hms]
       exact .refl _
     · obtain rfl : q = k := by omega
       refine uS rfl fun K hK => ?_
       refine jf rfl rfl (by omega) ?_
       refine wN hK ?_; clear hK
       refine WC.seq fun K hK => ?_
       refine uF rfl rfl ?_
       refine WC.exit ?_
       (clear hK; refine hK _ _ ?_; clear hK)
       refine WC.region rfl ?_
       refine ji rfl rfl (by omega) ?_
       refine jm rfl rfl ?_
       refine WL.nil ?_
       refine ⟨j + 1, (by repeat (first | with_reducible exact .refl _ _ | refine .set rfl ?_ | refine .put rfl ?_ | refine .sets rfl ?_ | refine .hav rfl ?_ | exact .refl _ _)), ⟨rfl, trivial⟩, ?_, by omega, by omega⟩
       show List.Sublist [pt b5 CTT (mcl _), pt b1 DT _] _
       rw [take_snoc (l := (nth rs i).l) (k := j) (by omega), show prR ((nth rs i).l.take j ++ [nth (nth rs i).l j]) (nth rs i).l = prR ((nth rs i).l.take j) (nth rs i).l ++ (nth rs i).l.map (fun b => (nth (nth rs i).l j, b)) from by unfold prR; rw [List.flatMap_append]; simp, ← List.append_assoc, List.take_of_length_le (Nat.le_of_eq hrl)]
       exact .refl _
   · obtain rfl : j = k := by omega
     refine uS rfl fun K hK => ?_
     refine jf rfl rfl (by omega) ?_
     refine wN hK ?_; clear hK
     refine WC.seq fun K hK => ?_
     refine uF rfl rfl ?_
     refine WC.exit ?_
     (clear hK; refine hK _ _ ?_; clear hK)
     refine WC.region rfl ?_
     refine ji rfl rfl (by omega) ?_
     refine jm rfl rfl ?_
     refine WL.nil ?_
     refine ⟨i + 1, (by repeat (first | with_reducible exact .refl _ _ | refine .set rfl ?_ | refine .put rfl ?_ | refine .sets rfl ?_ | refine .hav rfl ?_ | exact .refl _ _)), ⟨rfl, trivial⟩, ?_, by omega, by omega⟩
     show List.Sublist [pt b5 CTT (mcl _), pt b1 DT _] _
     rw [take_snoc (l := ils rs) (k := i) (by rw [List.length_map]; exact hlt), ils_at hlt, show prAll ((ils rs).take i ++ [(nth rs i).l]) = prAll ((ils rs).take i) ++ prR (nth rs i).l (nth rs i).l from by unfold prAll; rw [List.flatMap_append]; simp, List.take_of_length_le (Nat.le_of_eq hrl)]
     exact .refl _
 · obtain rfl : i = rs.length := by omega
   rw [List.take_of_length_le (by rw [List.length_map]; exact Nat.le_refl _)]
   have hix : ∀ a b : Nat, 0 + (0 + a * 60 + b * 1) = a * 60 + b := fun a b => by omega
   have hg0 := mcl_get (prAll (ils rs)) (a := 0) (b := 0) (by omega) (by omega)
   have hg1 := mcl_get (prAll (ils rs)) (a := 0) (b := 1) (by omega) (by omega)
   rw [cnS_all, hB.at_ 0 (by omega) 0 (by omega), if_pos rfl] at hg0
   rw [cnS_all, hB.at_ 0 (by omega) 1 (by omega), if_neg (by omega)] at hg1
   have hpos := hB.pos
   have hml := mcl_len (prAll (ils rs))
   refine uS rfl fun K hK => ?_
   refine jf rfl rfl (by omega) ?_
   refine wN hK ?_; clear hK
   refine WC.seq fun K hK => ?_
   refine uF rfl rfl ?_
   refine WC.exit ?_
   (clear hK; refine hK _ _ ?_; clear hK)
   refine WC.seq fun K hK => ?_
   refine WC.quiet rfl (by kernel_rfl) (by decide +kernel) ?_
   refine WQ.want rfl (WQ1.give rfl (g_indexAddrA (sz := 60) rfl (.mk rfl rfl) (.mk rfl rfl) rfl rfl (show _ = ((0 : Nat) : Int) from rfl) (by omega) (fun _ _ => rfl)) ?_)
   refine WQ.want rfl (WQ1.give rfl (g_indexAddrA (sz := 1) rfl (.mk rfl rfl) (.mk rfl rfl) rfl rfl (show _ = ((0 : Nat) : Int) from rfl) (by omega) (fun _ _ => rfl)) ?_)
   refine yl rfl rfl rfl (rd_pt (by repeat constructor) hg0) ?_
   refine WQ.want rfl (WQ1.give rfl (g_indexAddrA (sz := 60) rfl (.mk rfl rfl) (.mk rfl rfl) rfl rfl (show _ = ((0 : Nat) : Int) from rfl) (by omega) (fun _ _ => rfl)) ?_)
   refine WQ.want rfl (WQ1.give rfl (g_indexAddrA (sz := 1) rfl (.mk rfl rfl) (.mk rfl rfl) rfl rfl (show _ = ((1 : Nat) : Int) from rfl) (by omega) (fun _ _ => rfl)) ?_)
   refine yl rfl rfl rfl (rd_pt (by repeat constructor) hg1) ?_
   iterate 2 refine ym rfl rfl ?_
   refine WQ.nil ?_
   (refine hK _ _ ?_; clear hK)
   refine WC.seq fun K hK => ?_
   refine uS rfl fun K hK => ?_
   refine ja 0 rfl rfl rfl rfl ?_
   refine jl rfl rfl rfl (rd_pt (.tail _ (.head _)) rfl) ?_
   refine jm rfl rfl ?_
   refine wN hK ?_; clear hK
   refine WC.block ?_
   refine WC.loop (1208925531384253023109148) (fun a : Nat => [(58, iv a)]) (fun _ => [pt b5 CTT (mcl (prAll (ils rs))), pt b1 DT [iv v, .slice A rs.length c]]) (fun a => a ≤ v) (fun a => v - a) 0 ⟨rfl, trivial⟩ (.refl _) (by omega) ?_
   intro a U4 ha
   by_cases hla : a < v
   · refine uS rfl fun K hK => ?_
     refine jt rfl rfl (by omega) ?_
     refine wN hK ?_; clear hK
     refine WC.seq fun K hK => ?_
     refine uT rfl rfl ?_
     refine WC.skip ?_
     (refine hK _ _ ?_; clear hK)
     refine WC.seq fun K hK => ?_
     refine WC.block ?_
     refine uS rfl fun K hK => ?_
     iterate 2 refine jm rfl rfl ?_
     refine wN hK ?_; clear hK
     refine uS rfl fun K hK => ?_
     refine ja 0 rfl rfl rfl rfl ?_
     refine jl rfl rfl rfl (rd_pt (.tail _ (.head _)) rfl) ?_
     refine jm rfl rfl ?_
     refine wN hK ?_; clear hK
     refine WC.block ?_
     refine WC.loop (604453686435277732675612) (fun b : Nat => [(63, iv b)]) (fun _ => [pt b5 CTT (mcl (prAll (ils rs))), pt b1 DT [iv v, .slice A rs.length c]]) (fun b => b ≤ v) (fun b => v - b) 0 ⟨rfl, trivial⟩ (.refl _) (by omega) ?_
     intro b U5 hb
     by_cases hlb : b < v
     · have hgab := mcl_get (prAll (ils rs)) (a := a) (b := b) (by omega) (by omega)
       rw [cnS_all, hB.at_ a hla b hlb, ← hix] at hgab
       by_cases e : a = b
       · rw [if_pos e] at hgab
         refine uS rfl fun K hK => ?_
         refine jt rfl rfl (by omega) ?_
         refine wN hK ?_; clear hK
         refine WC.seq fun K hK => ?_
         refine uT rfl rfl ?_
         refine WC.skip ?_
         (refine hK _ _ ?_; clear hK)
         refine WC.seq fun K hK => ?_
         refine WC.block ?_
         refine uS rfl fun K hK => ?_
         iterate 2 refine jm rfl rfl ?_
         refine wN hK ?_; clear hK
         refine uS rfl fun K hK => ?_
         iterate 2 refine jm rfl rfl ?_
         refine wN hK ?_; clear hK
         refine WC.seq fun K hK => ?_
         refine uS rfl fun K hK => ?_
         iterate 2 refine jm rfl rfl ?_
         refine jt rfl rfl (by omega) ?_
         refine wN hK ?_; clear hK
         refine uT rfl rfl ?_
         refine WC.region rfl ?_
         iterate 2 refine jm rfl rfl ?_
         refine wN hK ?_; clear hK
         refine uS rfl fun K hK => ?_
         iterate 2 refine jm rfl rfl ?_
         refine wG rfl rfl (g_indexAddrA (sz := 60) rfl (.mk rfl rfl) (.mk rfl rfl) rfl rfl rfl (by omega) (fun _ _ => rfl)) ?_
         refine wG rfl rfl (g_indexAddrA (sz := 1) rfl (.mk rfl rfl) (.mk rfl rfl) rfl rfl rfl (by omega) (fun _ _ => rfl)) ?_
         refine jl rfl rfl rfl (rd_pt (by repeat constructor) hgab) ?_
         refine jm rfl rfl ?_
         refine jf rfl rfl (by omega) ?_
         refine wN hK ?_; clear hK
         refine uF rfl rfl ?_
         refine WC.skip ?_
         (refine hK _ _ ?_; clear hK)
         refine WC.region rfl ?_
         refine ji rfl rfl (by omega) ?_
         refine jm rfl rfl ?_
         refine WL.nil ?_
         exact ⟨b + 1, (by repeat (first | with_reducible exact .refl _ _ | refine .set rfl ?_ | refine .put rfl ?_ | refine .sets rfl ?_ | refine .hav rfl ?_ | exact .refl _ _)), ⟨rfl, trivial⟩, .refl _, by omega, by omega⟩
       · rw [if_neg e] at hgab
         refine uS rfl fun K hK => ?_
         refine jt rfl rfl (by omega) ?_
         refine wN hK ?_; clear hK
         refine WC.seq fun K hK => ?_
         refine uT rfl rfl ?_
         refine WC.skip ?_
         (refine hK _ _ ?_; clear hK)
         refine WC.seq fun K hK => ?_
         refine WC.block ?_
         refine uS rfl fun K hK => ?_
         iterate 2 refine jm rfl rfl ?_
         refine wN hK ?_; clear hK
         refine uS rfl fun K hK => ?_
         iterate 2 refine jm rfl rfl ?_
         refine wN hK ?_; clear hK
         refine WC.seq fun K hK => ?_
         refine uS rfl fun K hK => ?_
         iterate 2 refine jm rfl rfl ?_
         refine jf rfl rfl (by omega) ?_
         refine wN hK ?_; clear hK
         refine uF rfl rfl ?_
         refine WC.skip ?_
         (refine hK _ _ ?_; clear hK)
         refine uS rfl fun K hK => ?_
         iterate 2 refine jm rfl rfl ?_
         refine wG rfl rfl (g_indexAddrA (sz := 60) rfl (.mk rfl rfl) (.mk rfl rfl) rfl rfl rfl (by omega) (fun _ _ => rfl)) ?_
         refine wG rfl rfl (g_indexAddrA (sz := 1) rfl (.mk rfl rfl) (.mk rfl rfl) rfl rfl rfl (by omega) (fun _ _ => rfl)) ?_
         refine jl rfl rfl rfl (rd_pt (by repeat constructor) hgab) ?_
         refine jm rfl rfl ?_
         refine jf rfl rfl (by omega) ?_
         refine wN hK ?_; clear hK
         refine uF rfl rfl ?_
         refine WC.skip ?_
         (refine hK _ _ ?_; clear hK)
         refine WC.region rfl ?_
         refine ji rfl rfl (by omega) ?_
         refine jm rfl rfl ?_
         refine WL.nil ?_
         exact ⟨b + 1, (by repeat (first | with_reducible exact .refl _ _ | refine .set rfl ?_ | refine .put rfl ?_ | refine .sets rfl ?_ | refine .hav rfl ?_ | exact .refl _ _)), ⟨rfl, trivial⟩, .refl _, by omega, by omega⟩
     · obtain rfl : b = v := by omega
       refine uS rfl fun K hK => ?_
       refine jf rfl rfl (by omega) ?_
       refine wN hK ?_; clear hK
       refine WC.seq fun K hK => ?_
       refine uF rfl rfl ?_
       refine WC.exit ?_
       (clear hK; refine hK _ _ ?_; clear hK)
       refine WC.region rfl ?_
       refine ji rfl rfl (by omega) ?_
       refine jm rfl rfl ?_
       refine WL.nil ?_
       exact ⟨a + 1, (by repeat (first | with_reducible exact .refl _ _ | refine .set rfl ?_ | refine .put rfl ?_ | refine .sets rfl ?_ | refine .hav rfl ?_ | exact .refl _ _)), ⟨rfl, trivial⟩, .refl _, by omega, by omega⟩
   · obtain rfl : a = v := by omega
     refine uS rfl fun K hK => ?_
     refine jf rfl rfl (by omega) ?_
     refine wN hK ?_; clear hK
     refine WC.seq fun K hK => ?_
     refine uF rfl rfl ?_
     refine WC.exit ?_
     (clear hK; refine hK _ _ ?_; clear hK)
     refine WC.seq fun K hK => ?_
     refine uS rfl fun K hK => ?_
     refine jm rfl rfl ?_
     refine jf rfl rfl (by omega) ?_
     refine wN hK ?_; clear hK
     refine uF rfl rfl ?_
     refine WC.skip ?_
     (refine hK _ _ ?_; clear hK)
     refine uS rfl fun K hK => ?_
     iterate 5 refine jm rfl rfl ?_
     refine wN hK ?_; clear hK
     refine WC.ret ?_
     exact fun w' hw' => ⟨rfl, hw'.1⟩
def onP : List (Nat × Nat) → Nat → List Nat
 | [], _ => []
 | p :: Q, d => cond (Nat.beq p.2 d) (p.1 :: onP Q d) (onP Q d)
theorem onP_app (Q R : List (Nat × Nat)) (d : Nat) : onP (Q ++ R) d = onP Q d ++ onP R d := by
 induction Q with
 | nil => rfl
 | cons p Q ih => rw [List.cons_append, onP, onP, ih]; cases Nat.beq p.2 d <;> rfl
theorem onP_snoc (Q : List (Nat × Nat)) (g d x : Nat) : onP (Q ++ [(g, d)]) x = if x = d then onP Q x ++ [g] else onP Q x := by
 rw [onP_app]
 by_cases h : x = d
 · subst h; rw [if_pos rfl]; simp [onP]
 · have : Nat.beq d x = false := by rw [Bool.eq_false_iff]; intro h'; exact h (Nat.eq_of_beq_eq_true h').symm
   rw [if_neg h]; simp [onP, this]
theorem onP_len (Q : List (Nat × Nat)) (d : Nat) : (onP Q d).length ≤ Q.length := by
 induction Q with
 | nil => simp [onP]
 | cons p Q ih => rw [onP, List.length_cons]; cases Nat.beq p.2 d <;> simp <;> omega
def gdP (gs : List (List Nat)) : Nat → List (Nat × Nat)
 | 0 => []
 | g + 1 => gdP gs g ++ (nth gs g).map fun d => (g, d)
def rkF (gs : List (List Nat)) (g i : Nat) : Nat := (onP (gdP gs g ++ ((nth gs g).take i).map fun d => (g, d)) (nth (nth gs g) i)).length
def rkL (gs : List (List Nat)) (g : Nat) : List Nat := (List.range (nth gs g).length).map (rkF gs g)
def onL (v : Nat) (Q : List (Nat × Nat)) : List (List Nat) := (List.range v).map (onP Q)
theorem onL_len (v : Nat) (Q : List (Nat × Nat)) : (onL v Q).length = v := by simp [onL]
theorem onL_at {v d : Nat} (Q : List (Nat × Nat)) (h : d < v) : nth (onL v Q) d = onP Q d := nth_range _ h
theorem onL_set {v g d : Nat} (Q : List (Nat × Nat)) (h : d < v) : (onL v Q).set d (onP Q d ++ [g]) = onL v (Q ++ [(g, d)]) :=
 list_ext_nth (by rw [List.length_set, onL_len, onL_len]) fun q hq => by
   have hq3 : q < v := by rw [List.length_set, onL_len] at hq; exact hq
   rw [nth_set_eq (by rw [onL_len]; exact h), onL_at _ hq3, onL_at _ hq3, onP_snoc]
   by_cases e : q = d
   · subst e; simp
   · rw [if_neg e, if_neg e]
theorem gdP_len {gs : List (List Nat)} {k : Nat} : ∀ g, (∀ i, i < g → (nth gs i).length = k) → (gdP gs g).length = g * k
 | 0, _ => by simp [gdP]
 | g + 1, h => by
   rw [gdP, List.length_append, gdP_len g fun i hi => h i (by omega), List.length_map, h g (by omega), Nat.succ_mul]
theorem pre_get {cs es : List Value} {o j : Nat} {u : Value} (ho : o = j) (h : cs[j]? = some u) : (cs ++ es)[o]? = some u := by
 subst ho
 rw [List.getElem?_append_left (List.getElem?_eq_some_iff.1 h).1]; exact h
theorem rowsI_out {rs : List IRow} {L : List Asrt} {k : Nat} {A : Option Addr} {c : Nat} {l : List Nat} (hk : k < rs.length) (h : nth rs k = ⟨A, c, l⟩) : Imp (rowsI rs :: L) (vec A l.length c 3 1 (ldv l) :: rowsI (rs.eraseIdx k) :: L) := by
 have hk' : k < (rs.map IRow.own).length := by rw [List.length_map]; exact hk
 have := Imp.out (M := rs.map IRow.own) (L := L) hk'
 rw [List.getElem_map, ← nth_eq hk, h, show (rs.map IRow.own).eraseIdx k = (rs.eraseIdx k).map IRow.own from by simp [List.eraseIdx_eq_take_drop_succ, List.map_take, List.map_drop]] at this
 exact this
theorem rowsI_back {rs : List IRow} {L : List Asrt} {k : Nat} {e : IRow} (hk : k < rs.length) : Imp (e.own :: rowsI (rs.eraseIdx k) :: L) (rowsI (rs.set k e) :: L) := by
 have hk' : k < (rs.map IRow.own).length := by rw [List.length_map]; exact hk
 have := Imp.back (M := rs.map IRow.own) (L := L) (A := e.own) hk'
 rw [show (rs.map IRow.own).eraseIdx k = (rs.eraseIdx k).map IRow.own from by simp [List.eraseIdx_eq_take_drop_succ, List.map_take, List.map_drop], show (rs.map IRow.own).set k e.own = (rs.set k e).map IRow.own from by rw [List.map_set]] at this
 exact this
def nilR : IRow := ⟨none, 0, []⟩
theorem imp_nilv {L : List Asrt} (e : TypeId) (sz : Nat) : Imp L (vec none 0 0 e sz [] :: L) :=
 ⟨fun D hD b hb => by
   rcases List.mem_cons.1 hD with rfl | h
   · obtain ⟨a, ha, _⟩ := hb; cases ha
   · exact ⟨D, h, hb⟩, fun hs => ⟨World.ownsRow_nil _ _ _ _, (fun b ⟨a, ha, _⟩ => by cases ha), (fun D _ b ⟨a, ha, _⟩ => by cases ha), hs⟩⟩
theorem rowsI_nils {L : List Asrt} : ∀ n, Imp L (rowsI (List.replicate n nilR) :: L)
 | 0 => rowsI_none
 | n + 1 => by
   have h := (rowsI_nils (L := L) n).trans ((imp_nilv 3 1).trans (rowsI_new (r := nilR)))
   rw [← List.replicate_succ'] at h
   exact h
structure Lay (v k r lam : Nat) (gs : List (List Nat)) (t s : Nat) : Prop where
 d : Dsg v k gs
 b : Bal v gs r lam
 k4 : 4 ≤ k
 k16 : k ≤ 16
 t1 : 1 ≤ t
 t256 : t ≤ 256
 s1 : s ≤ 65536
 grp : t * gs.length ≤ 4096
 slt : t * gs.length * (k - 3) ≤ 65536
 cap : t * r + s ≤ 65536
abbrev LT : TypeId := 63
abbrev NT : TypeId := 133
abbrev layV (v : Nat) (A : Option Addr) (c : Nat) (rs : List IRow) (t s : Nat) : Value := .agg #[iv v, .slice A rs.length c, iv t, iv s]
abbrev numC (v : Nat) (A : Option Addr) (c : Nat) (rs : List IRow) (t s k r : Nat) (R O : Value) (h cp : Nat) : List Value := [iv v, .slice A rs.length c, iv t, iv s, iv k, iv r, iv rs.length, R, O, iv h, iv cp]
theorem data_e {v c t s k r h cp : Nat} {A : Option Addr} {rs : List IRow} {R O : Value} (w : World) (hk : 3 ≤ k) (hk2 : k ≤ 100) : Calls Tryz.prog 61 #[.agg (numC v A c rs t s k r R O h cp).toArray] w fun e w' => e = .returned (iv ((k : Int) - 3)) ∧ Below w.heap.size w w' := by
 refine calls_wc (args := [.agg (numC v A c rs t s k r R O h cp).toArray]) [2] [] Tryz.func61 rfl Tryz.ntmps61 rfl rfl rfl rfl (H.refl _) ?_
 refine uS rfl fun K hK => ?_
 refine WL.want rfl (WL1.box rfl rfl (.mk (v := .agg _) rfl rfl) rfl (fun b1 => ?_))
 refine jm rfl rfl ?_
 refine wN hK ?_; clear hK
 refine uS rfl fun K hK => ?_
 refine ja 4 rfl rfl rfl rfl ?_
 refine jl rfl rfl rfl (rd_pt (.head _) rfl) ?_
 refine ji rfl rfl (by omega) ?_
 refine jm rfl rfl ?_
 refine wN hK ?_; clear hK
 refine WC.ret ?_
 exact fun w' hw' => ⟨rfl, hw'.1⟩
set_option maxHeartbeats 1000000 in
theorem measure_n {v k r lam t s : Nat} {A : Option Addr} {c : Nat} {rs : List IRow} (w : World) (hy : Lay v k r lam (ils rs) t s) (hm : IMat w (.slice A rs.length c) rs) :
   Calls Tryz.prog 60 #[layV v A c rs t s] w fun e w' => ∃ u M, e = .returned u ∧ H w M w' ∧ ∃ R cR O cO rk on, ils rk = (List.range rs.length).map (rkL (ils rs)) ∧ ils on = onL v (gdP (ils rs) rs.length) ∧
     u = .tuple #[.agg (numC v A c rs t s k r (.slice R rk.length cR) (.slice O on.length cO) (t * r) (t * r + s)).toArray, .bool true] ∧ M = dsgA R cR rk ++ dsgA O cO on := by
 have hs := hm.1
 have hcn := hy.d.cnt
 have hv2 := hy.d.v2
 have hv60 := hy.d.v60
 have hk4 := hy.k4
 have hk16 := hy.k16
 have ht1 := hy.t1
 have ht2 := hy.t256
 have hs1 := hy.s1
 have hgr := hy.grp
 have hsl := hy.slt
 have hcp := hy.cap
 rw [List.length_map] at hgr hsl
 have h0 := (hy.d.row (i := 0) (by omega)).1
 subst h0
 have hck := fun w' (hb : Below w.heap.size w w') => check_d w' hy.d hy.b (hm.below hb)
 have hm1 : IntKind.i64.wrap ((t : Int) * r) = ((t * r : Nat) : Int) := by rw [← Int.natCast_mul]; exact IntWalk.i64_in _ (by omega)
 have hm2 : IntKind.i64.wrap ((t : Int) * (rs.length : Nat)) = ((t * rs.length : Nat) : Int) := by rw [← Int.natCast_mul]; exact IntWalk.i64_in _ (by omega)
 have hm3 : IntKind.i64.wrap (((t * rs.length : Nat) : Int) * (((nth rs 0).l.length : Int) - 3)) = ((t * rs.length * ((nth rs 0).l.length - 3) : Nat) : Int) := by
   rw [show ((nth rs 0).l.length : Int) - 3 = (((nth rs 0).l.length - 3 : Nat) : Int) from by omega, ← Int.natCast_mul]; exact IntWalk.i64_in _ (by omega)
 refine calls_wcG (args := [layV v A c rs t s]) [.cell 2 133, .tmp 3] [] Tryz.func60 rfl Tryz.ntmps60 rfl rfl (H.refl _) ?_
 refine uS rfl fun K hK => ?_
 refine WL.want rfl (WL1.box rfl rfl (.mk (v := .agg _) rfl rfl) rfl (fun b1 => ?_))
 refine WL.want rfl (WL1.alloc rfl rfl rfl rfl (fun b2 => ?_))
 refine jm rfl rfl ?_
 refine wN hK ?_; clear hK
 refine uS rfl fun K hK => ?_
 refine ja 0 rfl rfl rfl rfl ?_
 refine wG rfl rfl (g_loadA rfl (.mk rfl rfl) rfl rfl (rdr_pt (cs := [iv v, .slice A rs.length c]) (by repeat constructor) (fun j u h => pre_get (es := [iv t, iv s]) (by omega) h))) ?_
 refine WL.want rfl (WL1.callP rfl rfl rfl (.cons (.mk (v := .agg _) rfl rfl) .nil) (fun w hw => hck w hw.1) ?_)
 iterate 7 refine jm rfl rfl ?_
 refine wN hK ?_; clear hK
 refine WC.seq fun K hK => ?_
 refine uS rfl fun K hK => ?_
 refine jm rfl rfl ?_
 refine jf rfl rfl (by omega) ?_
 refine wN hK ?_; clear hK
 refine uF rfl rfl ?_
 refine WC.skip ?_
 (refine hK _ _ ?_; clear hK)
 refine WC.seq fun K hK => ?_
 refine WC.untilL [14] rfl (by kernel_rfl) ?_
 refine uB 0 rfl (by decide +kernel) (iS (by repeat constructor)) rfl ⟨rfl, g_loadA rfl (.mk rfl rfl) rfl rfl (rdr_pt (.tail _ (.head _)) (fun j u h => by simpa using h))⟩ ?_
 refine uG 1 rfl (by decide +kernel) (.inr (iS (by repeat constructor))) rfl (Ga 0 rfl rfl rfl) ?_
 refine uG 2 rfl (by decide +kernel) (.inr (iS (by repeat constructor))) rfl (Ga 1 rfl rfl rfl) ?_
 refine uB 3 rfl (by decide +kernel) (iS (by repeat constructor)) rfl (Gl rfl rfl (rd_pt (.tail _ (.head _)) rfl)) ?_
 refine uG 4 rfl (by decide +kernel) (.inr (iS (by repeat constructor))) rfl ⟨rfl, g_indexAddr (sz := 1) rfl (.mk rfl rfl) (.mk rfl rfl) rfl rfl (show _ = ((0 : Nat) : Int) from rfl) (by omega) (fun _ _ => sl_some hs (by omega))⟩ ?_
 refine uB 5 rfl (by decide +kernel) (iS (by repeat constructor)) rfl (Gl rfl rfl (rd_sl hs (get1 (by omega)))) ?_
 refine uG 6 rfl (by decide +kernel) (.inr (iS (by repeat constructor))) rfl (Gn rfl rfl) ?_
 refine uP 7 rfl (by decide +kernel) (.inr (iS (by repeat constructor))) rfl rfl ?_
 refine uG 8 rfl (by decide +kernel) (.inr (iS (by repeat constructor))) rfl (Ga 0 rfl rfl rfl) ?_
 refine uG 9 rfl (by decide +kernel) (.inr (iS (by repeat constructor))) rfl (Ga 1 rfl rfl rfl) ?_
 refine uB 10 rfl (by decide +kernel) (iS (by repeat constructor)) rfl (Gl rfl rfl (rd_pt (.tail _ (.head _)) rfl)) ?_
 refine uG 11 rfl (by decide +kernel) (.inr (iS (by repeat constructor))) rfl (Gn rfl rfl) ?_
 refine uG 12 rfl (by decide +kernel) (.inr (iS (by repeat constructor))) rfl ⟨rfl, g_buildS (us := [(0, [_, _, _, _]), (1, [_]), (2, [_]), (3, [_])]) (cs := [iv v, .slice A rs.length c, iv t, iv s, iv (nth rs 0).l.length, iv r, iv rs.length, .slice none 0 0, .slice none 0 0, iv 0, iv 0]) rfl rfl rfl rfl (.cons (.mk (v := .agg _) rfl rfl) (.cons (.mk (v := .int _ _) rfl rfl) (.cons (.mk (v := .int _ _) rfl rfl) (.cons (.mk (v := .int _ _) rfl rfl) .nil)))) rfl (fun p hp => by simp only [List.mem_cons, List.not_mem_nil, or_false] at hp; rcases hp with rfl | rfl | rfl | rfl <;> exact ⟨_, _, rfl, rfl, Nat.le_of_ble_eq_true rfl⟩) rfl⟩ ?_
 refine WB.one 13 (by decide +kernel) rfl rfl ?_
 refine WL1.alloc rfl rfl rfl rfl (fun b7 => ?_)
 refine WL.nil ?_
 refine ⟨.inr (iS (by repeat constructor)), ?_⟩
 refine WB.one 14 (by decide +kernel) rfl rfl ?_
 refine WL1.storeAll rfl rfl (.mk rfl rfl) (.mk rfl rfl) rfl (all1 rfl) (by first | rfl | (simp [Blk.len]; done)) (.head) ?_
 refine WL.nil ?_
 refine ⟨.inl (by decide +kernel), ?_⟩
 refine WB.done (by decide +kernel) ?_
 (refine hK _ _ ?_; clear hK)
 refine WC.seq fun K hK => ?_
 refine uS rfl fun K hK => ?_
 refine ja 4 rfl rfl rfl rfl ?_
 refine jl rfl rfl rfl (rd_pt (.head _) rfl) ?_
 refine jf rfl rfl (by omega) ?_
 refine jm rfl rfl ?_
 refine qa 4 rfl rfl rfl rfl ?_
 refine ql rfl rfl rfl (rd_pt (.head _) rfl) ?_
 refine qf rfl rfl (by omega) ?_
 iterate 2 refine jm rfl rfl ?_
 refine qa 2 rfl rfl rfl rfl ?_
 refine ql rfl rfl rfl (rd_pt (.tail _ (.tail _ (.head _))) rfl) ?_
 refine qf rfl rfl (by omega) ?_
 iterate 2 refine jm rfl rfl ?_
 refine qa 2 rfl rfl rfl rfl ?_
 refine ql rfl rfl rfl (rd_pt (.tail _ (.tail _ (.head _))) rfl) ?_
 refine qf rfl rfl (by omega) ?_
 iterate 2 refine jm rfl rfl ?_
 refine qa 3 rfl rfl rfl rfl ?_
 refine ql rfl rfl rfl (rd_pt (.tail _ (.tail _ (.head _))) rfl) ?_
 refine qf rfl rfl (by omega) ?_
 iterate 2 refine jm rfl rfl ?_
 refine qa 3 rfl rfl rfl rfl ?_
 refine ql rfl rfl rfl (rd_pt (.tail _ (.tail _ (.head _))) rfl) ?_
 refine qf rfl rfl (by omega) ?_
 refine jm rfl rfl ?_
 refine wN hK ?_; clear hK
 refine uF rfl rfl ?_
 refine WC.skip ?_
 (refine hK _ _ ?_; clear hK)
 refine uS rfl fun K hK => ?_
 refine ja 2 rfl rfl rfl rfl ?_
 refine jl rfl rfl rfl (rd_pt (.tail _ (.tail _ (.head _))) rfl) ?_
 refine jm rfl rfl ?_
 refine wG rfl rfl (g_mul rfl (.mk rfl rfl) (.mk rfl rfl) hm1) ?_
 refine ja 9 rfl rfl rfl rfl ?_
 refine WL.want rfl (WL1.store1 rfl rfl (.mk rfl rfl) (.mk (v := .int _ _) rfl rfl) rfl rfl (Nat.le_of_ble_eq_true rfl) (.head) ?_)
 refine wN hK ?_; clear hK
 refine uS rfl fun K hK => ?_
 refine ja 9 rfl rfl rfl rfl ?_
 refine jl rfl rfl rfl (rd_pt (.head _) rfl) ?_
 refine ja 3 rfl rfl rfl rfl ?_
 refine jl rfl rfl rfl (rd_pt (.tail _ (.tail _ (.head _))) rfl) ?_
 refine ji rfl rfl (by omega) ?_
 refine ja 10 rfl rfl rfl rfl ?_
 refine WL.want rfl (WL1.store1 rfl rfl (.mk rfl rfl) (.mk (v := .int _ _) rfl rfl) rfl rfl (Nat.le_of_ble_eq_true rfl) (.head) ?_)
 refine wN hK ?_; clear hK
 refine WC.seq fun K hK => ?_
 refine WC.seq fun K hK => ?_
 refine WC.quiet rfl (by kernel_rfl) (by decide +kernel) ?_
 refine ya 2 rfl rfl rfl rfl ?_
 refine yl rfl rfl rfl (rd_pt (.tail _ (.tail _ (.head _))) rfl) ?_
 refine ya 6 rfl rfl rfl rfl ?_
 refine yl rfl rfl rfl (rd_pt (.head _) rfl) ?_
 refine WQ.want rfl (WQ1.give rfl (g_mul rfl (.mk rfl rfl) (.mk rfl rfl) hm2) ?_)
 refine yf rfl rfl (by omega) ?_
 refine ym rfl rfl ?_
 refine Za 2 rfl rfl rfl rfl ?_
 refine Zl rfl rfl rfl (rd_pt (.tail _ (.tail _ (.head _))) rfl) ?_
 refine Za 6 rfl rfl rfl rfl ?_
 refine Zl rfl rfl rfl (rd_pt (.head _) rfl) ?_
 refine ZW rfl (WQ1.give rfl (g_mul rfl (.mk rfl rfl) (.mk rfl rfl) hm2) ?_)
 refine ZW rfl (WQ1.give rfl (g_loadA rfl (.mk rfl rfl) rfl rfl (rdr_pt (.head _) (fun j u h => by simpa using h))) ?_)
 refine ZW rfl (WQ1.callP rfl rfl rfl (.cons (.mk (v := .agg _) rfl rfl) .nil) (fun w hw => data_e w (by omega) (by omega)) ?_)
 refine ZW rfl (WQ1.give rfl (g_mul rfl (.mk rfl rfl) (.mk rfl rfl) hm3) ?_)
 refine Zf rfl rfl (by omega) ?_
 iterate 2 refine ym rfl rfl ?_
 refine Za 10 rfl rfl rfl rfl ?_
 refine Zl rfl rfl rfl (rd_pt (.head _) rfl) ?_
 refine Zf rfl rfl (by omega) ?_
 refine ym rfl rfl ?_
 refine WQ.nil ?_
 (refine hK _ _ ?_; clear hK)
 refine uF rfl rfl ?_
 refine WC.skip ?_
 (refine hK _ _ ?_; clear hK)
 refine uS rfl fun K hK => ?_
 iterate 2 refine ja 0 rfl rfl rfl rfl ?_
 refine jl rfl rfl rfl (rd_pt (.tail _ (.tail _ (.head _))) rfl) ?_
 refine WL.want rfl (WL1.make elRI rfl rfl (.mk rfl rfl) (.mk rfl rfl) rfl rfl (by omega) (by unfold maxLen; omega) (fun b102 => ?_))
 refine ja 8 rfl rfl rfl rfl ?_
 refine WL.want rfl (WL1.store1 rfl rfl (.mk rfl rfl) (.mk (v := .slice _ _ _) rfl rfl) rfl rfl (Nat.le_of_ble_eq_true rfl) (.tail (.head)) ?_)
 refine wN hK ?_; clear hK
 refine WC.seq fun K hK => ?_
 refine uS rfl fun K hK => ?_
 refine ja 0 rfl rfl rfl rfl ?_
 refine ja 1 rfl rfl rfl rfl ?_
 refine jl rfl rfl rfl (rd_pt (.tail _ (.tail _ (.tail _ (.head _)))) rfl) ?_
 refine jn rfl rfl rfl ?_
 refine jm rfl rfl ?_
 refine wN hK ?_; clear hK
 refine WC.block ?_
 have hmk : (madeCells (Value.slice none 0 0).cells (v * 1)).toList = (List.replicate v nilR).map IRow.v := by
   rw [show (Value.slice none 0 0).cells = #[.slice none 0 0] from rfl, made_one, List.map_replicate]; rfl
 refine WC.loopI4 (356811923176165451710913065635590628075116288) (fun (i : Nat) (R : Option Addr × Nat) (rk : List IRow) (on : List IRow) => [(108, iv i)]) (fun i R rk on => pt b1 LT [iv v, .slice A rs.length c, iv t, iv s] :: pt b7 NT (numC v A c rs t s (nth rs 0).l.length r (.slice R.1 i R.2) (.slice (some ⟨b102, 0, none⟩) v v) (t * r) (t * r + s)) :: vec R.1 i R.2 29 1 (rk.map IRow.v) :: rowsI rk :: vec (some ⟨b102, 0, none⟩) v v 29 1 (on.map IRow.v) :: rowsI on :: pt b2 NT [iv 0, .slice none 0 0, iv 0, iv 0, iv 0, iv 0, iv 0, .slice none 0 0, .slice none 0 0, iv 0, iv 0] :: []) (fun i _ rk on => i ≤ rs.length ∧ ils rk = (List.range i).map (rkL (ils rs)) ∧ ils on = onL v (gdP (ils rs) i)) (fun i _ _ _ => rs.length - i) 0 (none, 0) [] (List.replicate v nilR) ⟨rfl, trivial⟩ ?_ ⟨by omega, rfl, ?_⟩ ?_
 · rw [hmk]
   exact Imp.trans (Imp.trans (imp_nilv 29 1) (Imp.trans rowsI_none (rowsI_nils v))) (Imp.pick (by repeat constructor) (Imp.pick (by repeat constructor) (Imp.pick (by repeat constructor) (Imp.pick (by repeat constructor) (Imp.pick (by repeat constructor) (Imp.pick (by repeat constructor) (Imp.pick (by repeat constructor) (Imp.nil _))))))))
 · show (List.replicate v nilR).map IRow.l = (List.range v).map (fun _ => ([] : List Nat))
   rw [List.map_replicate, List.map_const', List.length_range]; rfl
 rintro i ⟨R, cR⟩ rk on U ⟨hi, hrk, hon⟩
 have hol : on.length = v := by have := congrArg List.length hon; rwa [List.length_map, onL_len] at this
 have hrl : rk.length = i := by have := congrArg List.length hrk; rwa [List.length_map, List.length_map, List.length_range] at this
 dsimp only
 by_cases hlt : i < rs.length
 · obtain ⟨hgl, hgv, -⟩ := hy.d.row hlt
   have hrs := hm.row hlt
   unfold IRow.v at hrs
   have hgi : nth (ils rs) i = (nth rs i).l := ils_at hlt
   refine uS rfl fun K hK => ?_
   refine jt rfl rfl (by omega) ?_
   refine wN hK ?_; clear hK
   refine WC.seq fun K hK => ?_
   refine uT rfl rfl ?_
   refine WC.skip ?_
   (refine hK _ _ ?_; clear hK)
   refine WC.seq fun K hK => ?_
   refine WC.block ?_
   refine uS rfl fun K hK => ?_
   refine jm rfl rfl ?_
   refine wG rfl rfl (g_indexAddr (sz := 1) rfl (.mk rfl rfl) (.mk rfl rfl) rfl rfl rfl (by omega) (fun _ _ => sl_some hs (by omega))) ?_
   refine jl rfl rfl rfl (rd_sl hs (get1 (by omega))) ?_
   iterate 2 refine jm rfl rfl ?_
   refine wN hK ?_; clear hK
   refine uS rfl fun K hK => ?_
   refine jm rfl rfl ?_
   refine wN hK ?_; clear hK
   refine WC.seq fun K hK => ?_
   refine uS rfl fun K hK => ?_
   refine jm rfl rfl ?_
   refine jn rfl rfl rfl ?_
   refine jm rfl rfl ?_
   refine wN hK ?_; clear hK
   refine WC.block ?_
   refine WC.nilvec 3 1 ?_
   refine WC.loopI3 (2787593108277953024413343755837074554491904) (fun (j : Nat) (B : Option Addr × Nat) (on : List IRow) => [(115, iv j), (10, .slice B.1 j B.2)]) (fun j B on => vec B.1 j B.2 3 1 (ldv ((List.range j).map (rkF (ils rs) i))) :: pt b1 LT [iv v, .slice A rs.length c, iv t, iv s] :: pt b7 NT (numC v A c rs t s (nth rs 0).l.length r (.slice R i cR) (.slice (some ⟨b102, 0, none⟩) v v) (t * r) (t * r + s)) :: vec R i cR 29 1 (rk.map IRow.v) :: rowsI rk :: vec (some ⟨b102, 0, none⟩) v v 29 1 (on.map IRow.v) :: rowsI on :: pt b2 NT [iv 0, .slice none 0 0, iv 0, iv 0, iv 0, iv 0, iv 0, .slice none 0 0, .slice none 0 0, iv 0, iv 0] :: []) (fun j _ on => j ≤ (nth rs i).l.length ∧ ils on = onL v (gdP (ils rs) i ++ ((nth rs i).l.take j).map fun d => (i, d))) (fun j _ _ => (nth rs i).l.length - j) 0 (none, 0) on ⟨rfl, rfl, trivial⟩ (Imp.refl _) ⟨by omega, by rw [List.take_zero, List.map_nil, List.append_nil]; exact hon⟩ ?_
   clear hon hol
   clear on
   rintro j ⟨B, cB⟩ on U2 ⟨hj, hon⟩
   have hol : on.length = v := by have := congrArg List.length hon; rwa [List.length_map, onL_len] at this
   dsimp only
   by_cases hlt2 : j < (nth rs i).l.length
   · have hd := hgv j (by omega)
     have hg := ldv_get (ld := (nth rs i).l) (k := j) hlt2
     have hon2 := onL_set (v := v) (g := i) (gdP (ils rs) i ++ ((nth rs i).l.take j).map fun d => (i, d)) hd
     have hat := onL_at (v := v) (gdP (ils rs) i ++ ((nth rs i).l.take j).map fun d => (i, d)) hd
     rw [← hon, ils_at (by omega)] at hat
     have hrk2 : rkF (ils rs) i j = (onP (gdP (ils rs) i ++ ((nth rs i).l.take j).map fun d => (i, d)) (nth (nth rs i).l j)).length := by unfold rkF; rw [hgi]
     have hlb := onP_len (gdP (ils rs) i ++ ((nth rs i).l.take j).map fun d => (i, d)) (nth (nth rs i).l j)
     rw [List.length_append, gdP_len (k := (nth rs 0).l.length) i (fun q hq => by rw [ils_at (by omega)]; exact (hy.d.row (by omega)).1), List.length_map, List.length_take] at hlb
     have hib : i * (nth rs 0).l.length ≤ 4096 * 16 := Nat.mul_le_mul (by omega) hk16
     have htk : gdP (ils rs) i ++ ((nth rs i).l.take (j + 1)).map (fun d => (i, d)) = gdP (ils rs) i ++ ((nth rs i).l.take j).map (fun d => (i, d)) ++ [(i, nth (nth rs i).l j)] := by
       rw [take_snoc hlt2, List.map_append, ← List.append_assoc]; rfl
     rw [← htk] at hon2
     rw [← hat] at hlb hrk2 hon2
     have hcell : (on.map IRow.v)[nth (nth rs i).l j * 1]? = some (nth on (nth (nth rs i).l j)).v := irowv_get (by omega)
     obtain ⟨A1, c1, l1, hrow⟩ : ∃ A1 c1 l1, nth on (nth (nth rs i).l j) = ⟨A1, c1, l1⟩ := ⟨_, _, _, rfl⟩
     rw [hrow] at hcell hlb hrk2 hon2
     replace hcell : (on.map IRow.v)[nth (nth rs i).l j * 1]? = some (.slice A1 l1.length c1) := hcell
     dsimp only at hlb hrk2 hon2
     have hrd : List.range (j + 1) = List.range j ++ [j] := List.range_succ
     generalize hdd : nth (nth rs i).l j = d at *
     have hdl : d < on.length := by omega
     refine uS rfl fun K hK => ?_
     refine jt rfl rfl (by omega) ?_
     refine wN hK ?_; clear hK
     refine WC.seq fun K hK => ?_
     refine uT rfl rfl ?_
     refine WC.skip ?_
     (refine hK _ _ ?_; clear hK)
     refine WC.seq fun K hK => ?_
     refine WC.block ?_
     refine uS rfl fun K hK => ?_
     refine wG rfl rfl (g_indexAddr (sz := 1) rfl (.mk rfl rfl) (.mk rfl rfl) rfl rfl rfl (by omega) (fun _ _ => sl_some hrs (by omega))) ?_
     refine jl rfl rfl rfl (rd_sl hrs hg) ?_
     refine jm rfl rfl ?_
     refine wN hK ?_; clear hK
     refine WC.imp (Imp.trans (Imp.pick (by first | ((repeat (first | exact .head | apply Take.tail)); done) | fail) (Imp.refl _)) (rowsI_out hdl hrow)) ?_
     refine uS rfl fun K hK => ?_
     refine jm rfl rfl ?_
     refine ja 8 rfl rfl rfl rfl ?_
     refine jl rfl rfl rfl (rd_pt (.tail _ (.tail _ (.tail _ (.tail _ (.head _))))) rfl) ?_
     refine jm rfl rfl ?_
     refine jx 1 rfl rfl rfl rfl rfl (by omega) rfl ?_
     refine jl rfl rfl rfl (rd_vec (by repeat constructor) hcell) ?_
     refine jn rfl rfl rfl ?_
     refine WL.want rfl (WL1.lit (cs := [_]) elI rfl rfl rfl (.cons (.mk (v := .int _ _) rfl rfl) .nil) rfl (by first | (simp [Value.cells]; done) | fail) rfl rfl (fun b126 => ?_))
     refine WL.want rfl (WL1.append elI rfl rfl (.mk rfl rfl) (.mk rfl rfl) (.tail (.tail (.tail (.head)))) (fun w hw => Sl.of_vec hw (.head _)) (all1 rfl) (by unfold maxLen; omega) (by omega) (fun A127 c127 => ?_))
     refine jm rfl rfl ?_
     refine wN hK ?_; clear hK
     refine WC.until [pt b7 NT (numC v A c rs t s (nth rs 0).l.length r (.slice R i cR) (.slice (some ⟨b102, 0, none⟩) v v) (t * r) (t * r + s)), vec (some ⟨b102, 0, none⟩) v v 29 1 (on.map IRow.v)] [12] rfl (by kernel_rfl) ?_
     refine uG 0 rfl (by decide +kernel) (.inr (iS (by repeat constructor))) rfl (Ga 8 rfl rfl rfl) ?_
     refine uB 1 rfl (by decide +kernel) (iS (by repeat constructor)) rfl (Gl rfl rfl (rd_pt (.head _) rfl)) ?_
     refine uP 2 rfl (by decide +kernel) (.inr (iS (by repeat constructor))) rfl rfl ?_
     refine uG 3 rfl (by decide +kernel) (.inr (iS (by repeat constructor))) rfl (Ga 8 rfl rfl rfl) ?_
     refine uB 4 rfl (by decide +kernel) (iS (by repeat constructor)) rfl (Gl rfl rfl (rd_pt (.head _) rfl)) ?_
     refine uP 5 rfl (by decide +kernel) (.inr (iS (by repeat constructor))) rfl rfl ?_
     refine uG 6 rfl (by decide +kernel) (.inr (iS (by repeat constructor))) rfl (Gx 1 rfl rfl rfl rfl (by omega) rfl) ?_
     refine uB 7 rfl (by decide +kernel) (iS (by repeat constructor)) rfl (Gl rfl rfl (rd_vec (by repeat constructor) hcell)) ?_
     refine uP 8 rfl (by decide +kernel) (.inr (iS (by repeat constructor))) rfl rfl ?_
     refine WB.one 9 (by decide +kernel) rfl rfl ?_
     refine WL1.lit (cs := [_]) elI rfl rfl rfl (.cons (.mk (v := .int _ _) rfl rfl) .nil) rfl (by first | (simp [Value.cells]; done) | fail) rfl rfl (fun b137 => ?_)
     refine WL.nil ?_
     refine ⟨.inr (iS (by repeat constructor)), ?_⟩
     refine WB.one 10 (by decide +kernel) rfl rfl ?_
     refine WL1.append elI rfl rfl (.mk rfl rfl) (.mk rfl rfl) (.tail (.tail (.tail (.head)))) (fun w hw => Sl.of_vec hw (.head _)) (all1 rfl) (by unfold maxLen; omega) (by omega) (fun A138 c138 => ?_)
     refine WL.nil ?_
     refine ⟨.inr (iS (by repeat constructor)), ?_⟩
     refine uG 11 rfl (by decide +kernel) (.inr (iS (by repeat constructor))) rfl (Gx 1 rfl rfl rfl rfl (by omega) rfl) ?_
     refine WB.one 12 (by decide +kernel) rfl rfl ?_
     refine WL1.storeV1 rfl rfl (.mk rfl rfl) (.mk (v := .slice _ _ _) rfl rfl) rfl rfl (by first | omega | (simp; done) | (simp; omega)) (.tail (.tail (.tail (.tail (.tail (.tail (.tail (.tail (.tail (.head)))))))))) ?_
     refine WL.nil ?_
     refine ⟨.inl (by decide +kernel), ?_⟩
     refine WB.done (by decide +kernel) ?_
     (refine hK _ _ ?_; clear hK)
     refine WC.region rfl ?_
     refine ji rfl rfl (by omega) ?_
     refine jm rfl rfl ?_
     refine WL.nil ?_
     have e1 : ldv ((List.range (j + 1)).map (rkF (ils rs) i)) = ldv ((List.range j).map (rkF (ils rs) i)) ++ [iv (l1.length : Nat)] := by
       rw [hrd, List.map_append, List.map_singleton, ← ldv_snoc, hrk2]
     have e2 : (on.set d ⟨A138, c138, l1 ++ [i]⟩).map IRow.v = (on.map IRow.v).set (d * 1) (.slice A138 (l1.length + 1) c138) := by
       rw [List.map_set, Nat.mul_one]; unfold IRow.v; rw [List.length_append]; rfl
     have e3 : (⟨A138, c138, l1 ++ [i]⟩ : IRow).own = vec A138 (l1.length + 1) c138 3 1 (ldv l1 ++ [iv i]) := by
       unfold IRow.own; rw [ldv_snoc, List.length_append]; rfl
     refine ⟨j + 1, (A127, c127), on.set d ⟨A138, c138, l1 ++ [i]⟩, (by repeat (first | with_reducible exact .refl _ _ | refine .set rfl ?_ | refine .put rfl ?_ | refine .sets rfl ?_ | refine .hav rfl ?_ | exact .refl _ _)), ⟨rfl, rfl, trivial⟩, ?_, ⟨by omega, ?_⟩, by omega⟩
     · dsimp only
       rw [e1, e2]
       refine Imp.pick (by repeat constructor) (Imp.pick (by repeat constructor) (Imp.pick (by repeat constructor) (Imp.pick (by repeat constructor) (Imp.pick (by repeat constructor) (Imp.pick (by repeat constructor) (Imp.trans (M := (⟨A138, c138, l1 ++ [i]⟩ : IRow).own :: rowsI (on.eraseIdx d) :: [pt b2 NT [iv 0, .slice none 0 0, iv 0, iv 0, iv 0, iv 0, iv 0, .slice none 0 0, .slice none 0 0, iv 0, iv 0]]) ?_ (rowsI_back hdl)))))))
       rw [e3]
       exact Imp.pick (by repeat constructor) (Imp.pick (by repeat constructor) (Imp.pick (by repeat constructor) (Imp.nil _)))
     · rw [← hon2, ← hon]
       exact List.map_set
   · obtain rfl : j = (nth rs i).l.length := by omega
     rw [List.take_length] at hon
     have hrke : rkL (ils rs) i = (List.range (nth rs i).l.length).map (rkF (ils rs) i) := by unfold rkL; rw [hgi]
     have hbl : (rkL (ils rs) i).length = (nth rs i).l.length := by rw [hrke, List.length_map, List.length_range]
     rw [← hrke]
     refine uS rfl fun K hK => ?_
     refine jf rfl rfl (by omega) ?_
     refine wN hK ?_; clear hK
     refine WC.seq fun K hK => ?_
     refine uF rfl rfl ?_
     refine WC.exit ?_
     (clear hK; refine hK _ _ ?_; clear hK)
     refine WC.region rfl ?_
     refine ja 7 rfl rfl rfl rfl ?_
     refine jl rfl rfl rfl (rd_pt (.tail _ (.tail _ (.head _))) rfl) ?_
     refine jm rfl rfl ?_
     refine WL.want rfl (WL1.lit (cs := [_]) elRI rfl rfl rfl (.cons (.mk (v := .slice _ _ _) rfl rfl) .nil) rfl (by first | (simp [Value.cells]; done) | fail) rfl rfl (fun b144 => ?_))
     refine WL.want rfl (WL1.append elRI rfl rfl (.mk rfl rfl) (.mk rfl rfl) (.tail (.tail (.tail (.tail (.head))))) (fun w hw => Sl.of_vec hw (.head _)) (all1 rfl) (by unfold maxLen; omega) (by omega) (fun A145 c145 => ?_))
     refine ja 7 rfl rfl rfl rfl ?_
     refine WL.want rfl (WL1.store1 rfl rfl (.mk rfl rfl) (.mk (v := .slice _ _ _) rfl rfl) rfl rfl (Nat.le_of_ble_eq_true rfl) (.tail (.tail (.tail (.tail (.head))))) ?_)
     refine wN hK ?_; clear hK
     refine WC.region rfl ?_
     refine ji rfl rfl (by omega) ?_
     refine jm rfl rfl ?_
     refine WL.nil ?_
     have e1 : (rk ++ [(⟨B, cB, rkL (ils rs) i⟩ : IRow)]).map IRow.v = rk.map IRow.v ++ [.slice B (nth rs i).l.length cB] := by
       rw [List.map_append, List.map_singleton]; unfold IRow.v; rw [hbl]
     have e3 : (⟨B, cB, rkL (ils rs) i⟩ : IRow).own = vec B (nth rs i).l.length cB 3 1 (ldv (rkL (ils rs) i)) := by
       unfold IRow.own; rw [hbl]
     refine ⟨i + 1, (A145, c145), rk ++ [⟨B, cB, rkL (ils rs) i⟩], on, (by repeat (first | with_reducible exact .refl _ _ | refine .set rfl ?_ | refine .put rfl ?_ | refine .sets rfl ?_ | refine .hav rfl ?_ | exact .refl _ _)), ⟨rfl, trivial⟩, ?_, ⟨by omega, ?_, ?_⟩, by omega⟩
     · dsimp only
       rw [e1]
       refine Imp.pick (by repeat constructor) (Imp.pick (by repeat constructor) (Imp.pick (by repeat constructor) (Imp.trans (M := (⟨B, cB, rkL (ils rs) i⟩ : IRow).own :: rowsI rk :: vec (some ⟨b102, 0, none⟩) v v 29 1 (on.map IRow.v) :: rowsI on :: [pt b2 NT [iv 0, .slice none 0 0, iv 0, iv 0, iv 0, iv 0, iv 0, .slice none 0 0, .slice none 0 0, iv 0, iv 0]]) ?_ rowsI_new)))
       rw [e3]
       exact Imp.pick (by repeat constructor) (Imp.pick (by repeat constructor) (Imp.pick (by repeat constructor) (Imp.pick (by repeat constructor) (Imp.pick (by repeat constructor) (Imp.nil _)))))
     · show (rk ++ [_]).map IRow.l = _
       rw [List.map_append, show rk.map IRow.l = _ from hrk, List.range_succ, List.map_append]; rfl
     · rw [hon, gdP, hgi]
 · obtain rfl : i = rs.length := by omega
   refine uS rfl fun K hK => ?_
   refine jf rfl rfl (by omega) ?_
   refine wN hK ?_; clear hK
   refine WC.seq fun K hK => ?_
   refine uF rfl rfl ?_
   refine WC.exit ?_
   (clear hK; refine hK _ _ ?_; clear hK)
   refine uS rfl fun K hK => ?_
   refine wG rfl rfl (g_loadA rfl (.mk rfl rfl) rfl rfl (rdr_pt (.tail _ (.head _)) (fun j u h => by simpa using h))) ?_
   refine WL.want rfl (WL1.storeAll rfl rfl (.mk rfl rfl) (.mk rfl rfl) rfl (all1 rfl) (by first | rfl | (simp [Blk.len]; done)) (.tail (.tail (.tail (.tail (.tail (.tail (.head))))))) ?_)
   refine jm rfl rfl ?_
   refine wN hK ?_; clear hK
   refine WC.ret ?_
   refine ⟨_, .cell rfl rfl rfl rfl (by repeat constructor) (.tmp rfl rfl .nil), fun w' hw' => ⟨_, [vec R rs.length cR 29 1 (rk.map IRow.v), rowsI rk, vec (some ⟨b102, 0, none⟩) v v 29 1 (on.map IRow.v), rowsI on], rfl, ?_, R, cR, some ⟨b102, 0, none⟩, v, rk, on, hrk, hon, ?_, ?_⟩⟩
   · exact (Imp.pick (by repeat constructor) (Imp.pick (by repeat constructor) (Imp.pick (by repeat constructor) (Imp.pick (by repeat constructor) (Imp.nil _))))).h hw'
   · rw [hrl, hol]; rfl
   · unfold dsgA; rw [hrl, hol]; rfl
theorem groups_m {v c t s k r h cp : Nat} {A : Option Addr} {rs : List IRow} {R O : Value} (w : World) (hb : t * rs.length ≤ 4096) : Calls Tryz.prog 132 #[.agg (numC v A c rs t s k r R O h cp).toArray] w fun e w' => e = .returned (iv (t * rs.length : Nat)) ∧ Below w.heap.size w w' := by
 have hm2 : IntKind.i64.wrap ((t : Int) * (rs.length : Nat)) = ((t * rs.length : Nat) : Int) := by rw [← Int.natCast_mul]; exact IntWalk.i64_in _ (by omega)
 refine calls_wc (args := [.agg (numC v A c rs t s k r R O h cp).toArray]) [2] [] Tryz.func132 rfl Tryz.ntmps132 rfl rfl rfl rfl (H.refl _) ?_
 refine uS rfl fun K hK => ?_
 refine WL.want rfl (WL1.box rfl rfl (.mk (v := .agg _) rfl rfl) rfl (fun b1 => ?_))
 refine jm rfl rfl ?_
 refine wN hK ?_; clear hK
 refine uS rfl fun K hK => ?_
 refine ja 0 rfl rfl rfl rfl ?_
 refine ja 2 rfl rfl rfl rfl ?_
 refine jl rfl rfl rfl (rd_pt (.head _) rfl) ?_
 refine ja 6 rfl rfl rfl rfl ?_
 refine jl rfl rfl rfl (rd_pt (.head _) rfl) ?_
 refine wG rfl rfl (g_mul rfl (.mk rfl rfl) (.mk rfl rfl) hm2) ?_
 refine jm rfl rfl ?_
 refine wN hK ?_; clear hK
 refine WC.ret ?_
 exact fun w' hw' => ⟨rfl, hw'.1⟩
section
variable {v k r lam t s : Nat} {A : Option Addr} {c : Nat} {rs : List IRow}
theorem Lay.grp' (hy : Lay v k r lam (ils rs) t s) : t * rs.length ≤ 4096 := by have := hy.grp; rwa [List.length_map] at this
theorem lgroups_e (w : World) (hy : Lay v k r lam (ils rs) t s) (hm : IMat w (.slice A rs.length c) rs) : Calls Tryz.prog 83 #[layV v A c rs t s] w fun e w' => e = .returned (iv (t * rs.length : Nat)) ∧ Below w.heap.size w w' := by
 have hg := hy.grp'
 refine calls_wc (args := [layV v A c rs t s]) [2] [] Tryz.func83 rfl Tryz.ntmps83 rfl rfl rfl rfl (H.refl _) ?_
 refine uS rfl fun K hK => ?_
 refine WL.want rfl (WL1.box rfl rfl (.mk (v := .agg _) rfl rfl) rfl (fun b1 => ?_))
 refine jm rfl rfl ?_
 refine wN hK ?_; clear hK
 refine uS rfl fun K hK => ?_
 refine wG rfl rfl (g_loadA rfl (.mk rfl rfl) rfl rfl (rdr_pt (.head _) (fun j u h => by simpa using h))) ?_
 (refine WL.want rfl (WL1.callN rfl rfl rfl (.cons (.mk (v := .agg _) rfl rfl) .nil) (fun w hw => measure_n w hy (hm.below hw.1)) ?_); rintro _ _ ⟨R, cR, O, cO, rk, on, -, -, rfl, rfl⟩)
 iterate 3 refine jm rfl rfl ?_
 refine WL.want rfl (WL1.alloc rfl rfl rfl rfl (fun b3 => ?_))
 refine WL.want rfl (WL1.storeAll rfl rfl (.mk rfl rfl) (.mk rfl rfl) rfl (all1 rfl) (by first | rfl | (simp [Blk.len]; done)) (.head) ?_)
 refine jm rfl rfl ?_
 refine wN hK ?_; clear hK
 refine uS rfl fun K hK => ?_
 refine wG rfl rfl (g_loadA rfl (.mk rfl rfl) rfl rfl (rdr_pt (.head _) (fun j u h => by simpa using h))) ?_
 refine WL.want rfl (WL1.callP rfl rfl rfl (.cons (.mk (v := .agg _) rfl rfl) .nil) (fun w hw => groups_m w hg) ?_)
 refine jm rfl rfl ?_
 refine wN hK ?_; clear hK
 refine WC.ret ?_
 exact fun w' hw' => ⟨rfl, hw'.1⟩
theorem ldata_e (w : World) (hy : Lay v k r lam (ils rs) t s) (hm : IMat w (.slice A rs.length c) rs) : Calls Tryz.prog 22 #[layV v A c rs t s] w fun e w' => e = .returned (iv ((k : Int) - 3)) ∧ Below w.heap.size w w' := by
 have h1 := hy.k4
 have h2 := hy.k16
 refine calls_wc (args := [layV v A c rs t s]) [2] [] Tryz.func22 rfl Tryz.ntmps22 rfl rfl rfl rfl (H.refl _) ?_
 refine uS rfl fun K hK => ?_
 refine WL.want rfl (WL1.box rfl rfl (.mk (v := .agg _) rfl rfl) rfl (fun b1 => ?_))
 refine jm rfl rfl ?_
 refine wN hK ?_; clear hK
 refine uS rfl fun K hK => ?_
 refine wG rfl rfl (g_loadA rfl (.mk rfl rfl) rfl rfl (rdr_pt (.head _) (fun j u h => by simpa using h))) ?_
 (refine WL.want rfl (WL1.callN rfl rfl rfl (.cons (.mk (v := .agg _) rfl rfl) .nil) (fun w hw => measure_n w hy (hm.below hw.1)) ?_); rintro _ _ ⟨R, cR, O, cO, rk, on, -, -, rfl, rfl⟩)
 iterate 3 refine jm rfl rfl ?_
 refine WL.want rfl (WL1.alloc rfl rfl rfl rfl (fun b3 => ?_))
 refine WL.want rfl (WL1.storeAll rfl rfl (.mk rfl rfl) (.mk rfl rfl) rfl (all1 rfl) (by first | rfl | (simp [Blk.len]; done)) (.head) ?_)
 refine jm rfl rfl ?_
 refine wN hK ?_; clear hK
 refine WC.seq fun K hK => ?_
 refine uS rfl fun K hK => ?_
 iterate 2 refine jm rfl rfl ?_
 refine wN hK ?_; clear hK
 refine uF rfl rfl ?_
 refine WC.skip ?_
 (refine hK _ _ ?_; clear hK)
 refine uS rfl fun K hK => ?_
 refine wG rfl rfl (g_loadA rfl (.mk rfl rfl) rfl rfl (rdr_pt (.head _) (fun j u h => by simpa using h))) ?_
 refine WL.want rfl (WL1.callP rfl rfl rfl (.cons (.mk (v := .agg _) rfl rfl) .nil) (fun w hw => data_e w (by omega) (by omega)) ?_)
 refine jm rfl rfl ?_
 refine wN hK ?_; clear hK
 refine WC.ret ?_
 exact fun w' hw' => ⟨rfl, hw'.1⟩
theorem lwidth_e (w : World) (hy : Lay v k r lam (ils rs) t s) (hm : IMat w (.slice A rs.length c) rs) : Calls Tryz.prog 71 #[layV v A c rs t s] w fun e w' => e = .returned (iv k) ∧ Below w.heap.size w w' := by
 refine calls_wc (args := [layV v A c rs t s]) [2] [] Tryz.func71 rfl Tryz.ntmps71 rfl rfl rfl rfl (H.refl _) ?_
 refine uS rfl fun K hK => ?_
 refine WL.want rfl (WL1.box rfl rfl (.mk (v := .agg _) rfl rfl) rfl (fun b1 => ?_))
 refine jm rfl rfl ?_
 refine wN hK ?_; clear hK
 refine uS rfl fun K hK => ?_
 refine wG rfl rfl (g_loadA rfl (.mk rfl rfl) rfl rfl (rdr_pt (.head _) (fun j u h => by simpa using h))) ?_
 (refine WL.want rfl (WL1.callN rfl rfl rfl (.cons (.mk (v := .agg _) rfl rfl) .nil) (fun w hw => measure_n w hy (hm.below hw.1)) ?_); rintro _ _ ⟨R, cR, O, cO, rk, on, -, -, rfl, rfl⟩)
 iterate 3 refine jm rfl rfl ?_
 refine WL.want rfl (WL1.alloc rfl rfl rfl rfl (fun b3 => ?_))
 refine WL.want rfl (WL1.storeAll rfl rfl (.mk rfl rfl) (.mk rfl rfl) rfl (all1 rfl) (by first | rfl | (simp [Blk.len]; done)) (.head) ?_)
 refine jm rfl rfl ?_
 refine wN hK ?_; clear hK
 refine uS rfl fun K hK => ?_
 refine ja 4 rfl rfl rfl rfl ?_
 refine jl rfl rfl rfl (rd_pt (.head _) rfl) ?_
 refine jm rfl rfl ?_
 refine wN hK ?_; clear hK
 refine WC.ret ?_
 exact fun w' hw' => ⟨rfl, hw'.1⟩
theorem lblocks_e (w : World) (hy : Lay v k r lam (ils rs) t s) (hm : IMat w (.slice A rs.length c) rs) : Calls Tryz.prog 67 #[layV v A c rs t s] w fun e w' => e = .returned (iv ((t * r : Nat) + (s : Int))) ∧ Below w.heap.size w w' := by
 refine calls_wc (args := [layV v A c rs t s]) [2] [] Tryz.func67 rfl Tryz.ntmps67 rfl rfl rfl rfl (H.refl _) ?_
 refine uS rfl fun K hK => ?_
 refine WL.want rfl (WL1.box rfl rfl (.mk (v := .agg _) rfl rfl) rfl (fun b1 => ?_))
 refine jm rfl rfl ?_
 refine wN hK ?_; clear hK
 refine uS rfl fun K hK => ?_
 refine wG rfl rfl (g_loadA rfl (.mk rfl rfl) rfl rfl (rdr_pt (.head _) (fun j u h => by simpa using h))) ?_
 (refine WL.want rfl (WL1.callN rfl rfl rfl (.cons (.mk (v := .agg _) rfl rfl) .nil) (fun w hw => measure_n w hy (hm.below hw.1)) ?_); rintro _ _ ⟨R, cR, O, cO, rk, on, -, -, rfl, rfl⟩)
 iterate 3 refine jm rfl rfl ?_
 refine WL.want rfl (WL1.alloc rfl rfl rfl rfl (fun b3 => ?_))
 refine WL.want rfl (WL1.storeAll rfl rfl (.mk rfl rfl) (.mk rfl rfl) rfl (all1 rfl) (by first | rfl | (simp [Blk.len]; done)) (.head) ?_)
 refine jm rfl rfl ?_
 refine wN hK ?_; clear hK
 refine uS rfl fun K hK => ?_
 refine ja 10 rfl rfl rfl rfl ?_
 refine jl rfl rfl rfl (rd_pt (.head _) rfl) ?_
 refine jm rfl rfl ?_
 refine wN hK ?_; clear hK
 refine WC.ret ?_
 exact fun w' hw' => ⟨rfl, hw'.1⟩
theorem lvalid_e (w : World) (hy : Lay v k r lam (ils rs) t s) (hm : IMat w (.slice A rs.length c) rs) : Calls Tryz.prog 70 #[layV v A c rs t s] w fun e w' => e = .returned (.bool true) ∧ Below w.heap.size w w' := by
 refine calls_wc (args := [layV v A c rs t s]) [2] [] Tryz.func70 rfl Tryz.ntmps70 rfl rfl rfl rfl (H.refl _) ?_
 refine uS rfl fun K hK => ?_
 refine WL.want rfl (WL1.box rfl rfl (.mk (v := .agg _) rfl rfl) rfl (fun b1 => ?_))
 refine jm rfl rfl ?_
 refine wN hK ?_; clear hK
 refine uS rfl fun K hK => ?_
 refine wG rfl rfl (g_loadA rfl (.mk rfl rfl) rfl rfl (rdr_pt (.head _) (fun j u h => by simpa using h))) ?_
 (refine WL.want rfl (WL1.callN rfl rfl rfl (.cons (.mk (v := .agg _) rfl rfl) .nil) (fun w hw => measure_n w hy (hm.below hw.1)) ?_); rintro _ _ ⟨R, cR, O, cO, rk, on, -, -, rfl, rfl⟩)
 iterate 3 refine jm rfl rfl ?_
 refine WL.want rfl (WL1.alloc rfl rfl rfl rfl (fun b3 => ?_))
 refine WL.want rfl (WL1.storeAll rfl rfl (.mk rfl rfl) (.mk rfl rfl) rfl (all1 rfl) (by first | rfl | (simp [Blk.len]; done)) (.head) ?_)
 refine jm rfl rfl ?_
 refine wN hK ?_; clear hK
 refine uS rfl fun K hK => ?_
 iterate 2 refine jm rfl rfl ?_
 refine wN hK ?_; clear hK
 refine WC.ret ?_
 exact fun w' hw' => ⟨rfl, hw'.1⟩
theorem lslots_e (w : World) (hy : Lay v k r lam (ils rs) t s) (hm : IMat w (.slice A rs.length c) rs) : Calls Tryz.prog 30 #[layV v A c rs t s] w fun e w' => e = .returned (iv (t * rs.length * (k - 3) : Nat)) ∧ Below w.heap.size w w' := by
 have h1 := hy.k4
 have hs := hy.slt
 rw [List.length_map] at hs
 have hm3 : IntKind.i64.wrap (((t * rs.length : Nat) : Int) * ((k : Int) - 3)) = ((t * rs.length * (k - 3) : Nat) : Int) := by
   rw [show (k : Int) - 3 = ((k - 3 : Nat) : Int) from by omega, ← Int.natCast_mul]; exact IntWalk.i64_in _ (by omega)
 have hgr : ∀ w', Below w.heap.size w w' → _ := fun w' hb => lgroups_e w' hy (hm.below hb)
 have hda : ∀ w', Below w.heap.size w w' → _ := fun w' hb => ldata_e w' hy (hm.below hb)
 refine calls_wc (args := [layV v A c rs t s]) [2] [] Tryz.func30 rfl Tryz.ntmps30 rfl rfl rfl rfl (H.refl _) ?_
 refine uS rfl fun K hK => ?_
 refine WL.want rfl (WL1.box rfl rfl (.mk (v := .agg _) rfl rfl) rfl (fun b1 => ?_))
 refine jm rfl rfl ?_
 refine wN hK ?_; clear hK
 refine WC.seq fun K hK => ?_
 refine WC.held [pt b1 LT [iv v, .slice A rs.length c, iv t, iv s]] rfl (by kernel_rfl) ?_
 refine uH 0 rfl (by decide +kernel) (iS (by repeat constructor)) rfl ⟨rfl, g_loadA rfl (.mk rfl rfl) rfl rfl (rdr_pt (.head _) (fun j u h => by simpa using h))⟩ ?_
 refine uH 2 rfl (by decide +kernel) (iS (by repeat constructor)) rfl ⟨rfl, g_loadA rfl (.mk rfl rfl) rfl rfl (rdr_pt (.head _) (fun j u h => by simpa using h))⟩ ?_
 refine WH.one 1 (by decide +kernel) rfl rfl ?_
 refine WL1.callP rfl rfl rfl (.cons (.mk (v := .agg _) rfl rfl) .nil) (fun w hw => hgr w hw.1) ?_
 refine WL.nil ?_
 refine ⟨(iS (by repeat constructor)), ?_⟩
 refine WH.one 3 (by decide +kernel) rfl rfl ?_
 refine WL1.callP rfl rfl rfl (.cons (.mk (v := .agg _) rfl rfl) .nil) (fun w hw => hda w hw.1) ?_
 refine WL.nil ?_
 refine ⟨(iS (by repeat constructor)), ?_⟩
 refine uH 4 rfl (by decide +kernel) (iS (by repeat constructor)) rfl ⟨rfl, g_mul rfl (.mk rfl rfl) (.mk rfl rfl) hm3⟩ ?_
 refine uH 5 rfl (by decide +kernel) (iS (by repeat constructor)) rfl (Gm rfl) ?_
 refine WH.done (by decide +kernel) ?_
 (refine hK _ _ ?_; clear hK)
 refine WC.ret ?_
 exact fun w' hw' => ⟨rfl, hw'.1⟩
end
abbrev KT : TypeId := 159
theorem elKd : Elem Tryz.prog 160 KT (.agg #[iv 0, iv 0, .nilFunc]) 3 24 := ⟨by kernel_rfl, by kernel_rfl, rfl, by decide⟩
structure Cmp (v k : Nat) : Prop where
 v60 : v ≤ 60
 k4 : 4 ≤ k
 k16 : k ≤ 16
 kv : k ≤ v
 b : ∀ i, i ≤ min k (v - k) → cntF v i ≤ 1000000
 c : cntF v (min k (v - k)) ≤ 4096
 m : (cmb v k [] 0).length ≤ 100000
def cmpB (v k : Nat) : Bool := Nat.ble v 60 && Nat.ble 4 k && Nat.ble k 16 && Nat.ble k v && ((List.range (min k (v - k) + 1)).all fun i => Nat.ble (cntF v i) 1000000) && Nat.ble (cntF v (min k (v - k))) 4096 && Nat.ble (cmb v k [] 0).length 100000
theorem cmpB_spec {v k : Nat} (h : cmpB v k = true) : Cmp v k := by
 unfold cmpB at h
 simp only [Bool.and_eq_true, List.all_eq_true, List.mem_range] at h
 obtain ⟨⟨⟨⟨⟨⟨h1, h2⟩, h3⟩, h4⟩, h5⟩, h6⟩, h7⟩ := h
 exact ⟨Nat.le_of_ble_eq_true h1, Nat.le_of_ble_eq_true h2, Nat.le_of_ble_eq_true h3, Nat.le_of_ble_eq_true h4, fun i hi => Nat.le_of_ble_eq_true (h5 i (by omega)), Nat.le_of_ble_eq_true h6, Nat.le_of_ble_eq_true h7⟩
set_option maxHeartbeats 1000000 in
theorem choose_n (v k : Nat) (w : World) (h : Cmp v k) (h1 : k * k - k + 1 ≠ v) (h2 : k * k ≠ v) :
   Calls Tryz.prog 29 #[iv v, iv k] w fun e w' => ∃ u M, e = .returned u ∧ H w M w' ∧ ∃ A c rs, ils rs = cmb v k [] 0 ∧ u = .tuple #[dsgV v A c rs, iv 0] ∧ M = dsgA A c rs := by
 have hv60 := h.v60
 have hk4 := h.k4
 have hk16 := h.k16
 have hkv := h.kv
 have hcp := fun w => complete_n v k w hv60 (by omega) hkv h.b h.c h.m
 have hkk : k * k ≤ 256 := Nat.mul_le_mul hk16 hk16
 have hkl : k ≤ k * k := Nat.le_mul_of_pos_left k (by omega)
 have hmul : IntKind.i64.wrap ((k : Int) * k) = ((k * k : Nat) : Int) := by rw [← Int.natCast_mul]; exact IntWalk.i64_in _ (by omega)
 generalize k * k = q at *
 refine calls_wcG (args := [iv v, iv k]) [.cell 4 61, .tmp 5] [] Tryz.func29 rfl Tryz.ntmps29 rfl rfl (H.refl _) ?_
 refine uS rfl fun K hK => ?_
 refine WL.want rfl (WL1.alloc rfl rfl rfl rfl (fun b4 => ?_))
 refine jm rfl rfl ?_
 refine wN hK ?_; clear hK
 refine WC.seq fun K hK => ?_
 refine uS rfl fun K hK => ?_
 refine jm rfl rfl ?_
 refine jf rfl rfl (by omega) ?_
 refine jm rfl rfl ?_
 refine qm rfl rfl ?_
 refine qf rfl rfl (by omega) ?_
 iterate 2 refine jm rfl rfl ?_
 iterate 2 refine qm rfl rfl ?_
 refine qf rfl rfl (by omega) ?_
 iterate 2 refine jm rfl rfl ?_
 refine qm rfl rfl ?_
 refine qf rfl rfl (by omega) ?_
 refine jm rfl rfl ?_
 refine wN hK ?_; clear hK
 refine uF rfl rfl ?_
 refine WC.skip ?_
 (refine hK _ _ ?_; clear hK)
 refine uS rfl fun K hK => ?_
 iterate 2 refine jm rfl rfl ?_
 refine wG rfl rfl (g_mul rfl (.mk rfl rfl) (.mk rfl rfl) hmul) ?_
 refine jm rfl rfl ?_
 iterate 2 refine ji rfl rfl (by omega) ?_
 refine jm rfl rfl ?_
 refine ji rfl rfl (by omega) ?_
 refine wG rfl rfl (g_build (cs := [_, _, _]) rfl rfl rfl rfl (.cons (.mk (v := .int _ _) rfl rfl) (.cons (.mk (v := .int _ _) rfl rfl) (.cons (.mk (v := .func _ _ _) rfl rfl) .nil))) rfl rfl rfl) ?_
 iterate 2 refine jm rfl rfl ?_
 refine wG rfl rfl (g_mul rfl (.mk rfl rfl) (.mk rfl rfl) hmul) ?_
 refine jm rfl rfl ?_
 refine wG rfl rfl (g_build (cs := [_, _, _]) rfl rfl rfl rfl (.cons (.mk (v := .int _ _) rfl rfl) (.cons (.mk (v := .int _ _) rfl rfl) (.cons (.mk (v := .func _ _ _) rfl rfl) .nil))) rfl rfl rfl) ?_
 refine WL.want rfl (WL1.lit elKd rfl rfl rfl (.cons (.mk (v := .agg _) rfl rfl) (.cons (.mk (v := .agg _) rfl rfl) .nil)) rfl (by intro v hv; simp only [List.mem_cons, List.not_mem_nil, or_false] at hv; rcases hv with rfl | rfl <;> rfl) rfl rfl (fun b41 => ?_))
 refine jm rfl rfl ?_
 refine wN hK ?_; clear hK
 refine WC.seq fun K hK => ?_
 refine uS rfl fun K hK => ?_
 refine jm rfl rfl ?_
 refine jn rfl rfl rfl ?_
 refine jm rfl rfl ?_
 refine wN hK ?_; clear hK
 refine WC.block ?_
 have g0 : ∀ j u, ([iv ((q : Int) - k + 1), iv ((k : Int) - 1), .func (.func 80) #[] #[]] : List Value)[j]? = some u → ([iv ((q : Int) - k + 1), iv ((k : Int) - 1), .func (.func 80) #[] #[], iv q, iv k, .func (.func 81) #[] #[]] : List Value)[0 * 3 + j]? = some u := fun j u h => pre_get (es := [iv q, iv k, .func (.func 81) #[] #[]]) (by omega) h
 have g1 : ∀ j u, ([iv q, iv k, .func (.func 81) #[] #[]] : List Value)[j]? = some u → ([iv ((q : Int) - k + 1), iv ((k : Int) - 1), .func (.func 80) #[] #[], iv q, iv k, .func (.func 81) #[] #[]] : List Value)[1 * 3 + j]? = some u := fun j u h => by
   match j, h with
   | 0, h => exact h
   | 1, h => exact h
   | 2, h => exact h
   | j + 3, h => simp at h
 refine WC.imp (M := [vec (some ⟨b41, 0, none⟩) 2 2 KT 3 [iv ((q : Int) - k + 1), iv ((k : Int) - 1), .func (.func 80) #[] #[], iv q, iv k, .func (.func 81) #[] #[]], pt b4 DT [iv 0, .slice none 0 0]]) (Imp.refl _) ?_
 refine WC.loop (18446726481523509024) (fun i : Nat => [(44, iv i)]) (fun _ => [vec (some ⟨b41, 0, none⟩) 2 2 KT 3 [iv ((q : Int) - k + 1), iv ((k : Int) - 1), .func (.func 80) #[] #[], iv q, iv k, .func (.func 81) #[] #[]], pt b4 DT [iv 0, .slice none 0 0]]) (fun i => i ≤ 2) (fun i => 2 - i) 0 ⟨rfl, trivial⟩ (.refl _) (by omega) ?_
 intro i U hi
 obtain rfl | rfl | rfl : i = 0 ∨ i = 1 ∨ i = 2 := by omega
 · refine uS rfl fun K hK => ?_
   refine jt rfl rfl (by omega) ?_
   refine wN hK ?_; clear hK
   refine WC.seq fun K hK => ?_
   refine uT rfl rfl ?_
   refine WC.skip ?_
   (refine hK _ _ ?_; clear hK)
   refine WC.seq fun K hK => ?_
   refine WC.block ?_
   refine uS rfl fun K hK => ?_
   refine wG rfl rfl (g_indexAddr (sz := 3) rfl (.mk rfl rfl) (.mk rfl rfl) rfl rfl (show _ = ((0 : Nat) : Int) from rfl) (by omega) (fun _ _ => rfl)) ?_
   refine wG rfl rfl (g_loadA rfl (.mk rfl rfl) rfl rfl (rdr_vec (cs := [iv ((q : Int) - k + 1), iv ((k : Int) - 1), .func (.func 80) #[] #[]]) (by repeat constructor) (by omega) g0)) ?_
   refine WL.want rfl (WL1.alloc rfl rfl rfl rfl (fun b8 => ?_))
   refine WL.want rfl (WL1.storeAll rfl rfl (.mk rfl rfl) (.mk rfl rfl) rfl (all1 rfl) (by first | rfl | (simp [Blk.len]; done)) (.head) ?_)
   refine wN hK ?_; clear hK
   refine WC.seq fun K hK => ?_
   refine uS rfl fun K hK => ?_
   refine ja 0 rfl rfl rfl rfl ?_
   refine jl rfl rfl rfl (rd_pt (.head _) rfl) ?_
   refine jm rfl rfl ?_
   refine jt rfl rfl (by omega) ?_
   refine wN hK ?_; clear hK
   refine uT rfl rfl ?_
   refine WC.exit ?_
   (clear hK; refine hK _ _ ?_; clear hK)
   refine WC.region rfl ?_
   refine ji rfl rfl (by omega) ?_
   refine jm rfl rfl ?_
   refine WL.nil ?_
   exact ⟨1, (by repeat (first | with_reducible exact .refl _ _ | refine .set rfl ?_ | refine .put rfl ?_ | refine .sets rfl ?_ | refine .hav rfl ?_ | exact .refl _ _)), ⟨rfl, trivial⟩, .cons _ (.refl _), by omega, by omega⟩
 · refine uS rfl fun K hK => ?_
   refine jt rfl rfl (by omega) ?_
   refine wN hK ?_; clear hK
   refine WC.seq fun K hK => ?_
   refine uT rfl rfl ?_
   refine WC.skip ?_
   (refine hK _ _ ?_; clear hK)
   refine WC.seq fun K hK => ?_
   refine WC.block ?_
   refine uS rfl fun K hK => ?_
   refine wG rfl rfl (g_indexAddr (sz := 3) rfl (.mk rfl rfl) (.mk rfl rfl) rfl rfl (show _ = ((1 : Nat) : Int) from rfl) (by omega) (fun _ _ => rfl)) ?_
   refine wG rfl rfl (g_loadA rfl (.mk rfl rfl) rfl rfl (rdr_vec (cs := [iv q, iv k, .func (.func 81) #[] #[]]) (by repeat constructor) (by omega) g1)) ?_
   refine WL.want rfl (WL1.alloc rfl rfl rfl rfl (fun b8 => ?_))
   refine WL.want rfl (WL1.storeAll rfl rfl (.mk rfl rfl) (.mk rfl rfl) rfl (all1 rfl) (by first | rfl | (simp [Blk.len]; done)) (.head) ?_)
   refine wN hK ?_; clear hK
   refine WC.seq fun K hK => ?_
   refine uS rfl fun K hK => ?_
   refine ja 0 rfl rfl rfl rfl ?_
   refine jl rfl rfl rfl (rd_pt (.head _) rfl) ?_
   refine jm rfl rfl ?_
   refine jt rfl rfl (by omega) ?_
   refine wN hK ?_; clear hK
   refine uT rfl rfl ?_
   refine WC.exit ?_
   (clear hK; refine hK _ _ ?_; clear hK)
   refine WC.region rfl ?_
   refine ji rfl rfl (by omega) ?_
   refine jm rfl rfl ?_
   refine WL.nil ?_
   exact ⟨2, (by repeat (first | with_reducible exact .refl _ _ | refine .set rfl ?_ | refine .put rfl ?_ | refine .sets rfl ?_ | refine .hav rfl ?_ | exact .refl _ _)), ⟨rfl, trivial⟩, .cons _ (.refl _), by omega, by omega⟩
 · refine uS rfl fun K hK => ?_
   refine jf rfl rfl (by omega) ?_
   refine wN hK ?_; clear hK
   refine WC.seq fun K hK => ?_
   refine uF rfl rfl ?_
   refine WC.exit ?_
   (clear hK; refine hK _ _ ?_; clear hK)
   refine uS rfl fun K hK => ?_
   iterate 2 refine jm rfl rfl ?_
   (refine WL.want rfl (WL1.callN rfl rfl rfl (.cons (.mk (v := .int _ _) rfl rfl) (.cons (.mk (v := .int _ _) rfl rfl) .nil)) (fun w hw => hcp w) ?_); rintro _ _ ⟨A, c, rs, hrs, rfl, rfl⟩)
   iterate 2 refine jm rfl rfl ?_
   refine WL.want rfl (WL1.storeAll rfl rfl (.mk rfl rfl) (.mk rfl rfl) rfl (all1 rfl) (by first | rfl | (simp [Blk.len]; done)) (.tail (.tail (.tail (.head)))) ?_)
   refine jm rfl rfl ?_
   refine wN hK ?_; clear hK
   refine WC.ret ?_
   exact ⟨_, .cell rfl rfl rfl rfl (by repeat constructor) (.tmp rfl rfl .nil), fun w' hw' => ⟨_, _, rfl, (Imp.pick (by repeat constructor) (Imp.pick (by repeat constructor) (Imp.nil _))).h hw', A, c, rs, hrs, rfl, rfl⟩⟩
end Go.Proofs.YtdcijljfgcjelaaGreat
namespace Go.Proofs.YtdcijljfgcjelaaGreat
set_option maxRecDepth 20000
open Go.RowKit
def gdT (bs : List Bool) (n : Nat) : Nat → List Nat
 | 0 => []
 | i + 1 => if nth bs i = false ∧ (gdT bs n i).length < n then gdT bs n i ++ [i] else gdT bs n i
def cnt (bs : List Bool) : Nat → Nat
 | 0 => 0
 | i + 1 => cnt bs i + if nth bs i then 1 else 0
variable {bs : List Bool} {n : Nat}
theorem cnt_le : ∀ i, cnt bs i ≤ i
 | 0 => Nat.le_refl _
 | i + 1 => by have := cnt_le i; show cnt bs i + (if nth bs i then 1 else 0) ≤ i + 1; split <;> omega
theorem gdT_take {i : Nat} (h : nth bs i = false) (hl : (gdT bs n i).length < n) : gdT bs n (i + 1) = gdT bs n i ++ [i] := if_pos ⟨h, hl⟩
theorem gdT_bad {i : Nat} (h : nth bs i = true) : gdT bs n (i + 1) = gdT bs n i := if_neg fun ⟨h1, _⟩ => by rw [h] at h1; cases h1
theorem gdT_over {i : Nat} (h : ¬ (gdT bs n i).length < n) : gdT bs n (i + 1) = gdT bs n i := if_neg fun ⟨_, h2⟩ => h h2
theorem gdT_len : ∀ i, (gdT bs n i).length = min n (i - cnt bs i)
 | 0 => by show 0 = min n (0 - cnt bs 0); omega
 | i + 1 => by
   have ih := gdT_len i
   have hc := cnt_le (bs := bs) i
   have hs : cnt bs (i + 1) = cnt bs i + if nth bs i then 1 else 0 := rfl
   cases hb : nth bs i with
   | true => rw [gdT_bad hb, hs, hb, if_pos rfl]; omega
   | false =>
     rw [hs, hb]
     by_cases hl : (gdT bs n i).length < n
     · rw [gdT_take hb hl, List.length_append]; simp; omega
     · rw [gdT_over hl]; simp; omega
theorem gdT_lt : ∀ i, ∀ a ∈ gdT bs n i, a < i ∧ nth bs a = false
 | 0, a, h => by cases h
 | i + 1, a, h => by
   by_cases hc : nth bs i = false ∧ (gdT bs n i).length < n
   · rw [gdT_take hc.1 hc.2] at h
     rcases List.mem_append.1 h with h | h
     · have := gdT_lt i a h; exact ⟨by omega, this.2⟩
     · rw [List.mem_singleton] at h; subst h; exact ⟨by omega, hc.1⟩
   · rw [gdT, if_neg hc] at h
     have := gdT_lt i a h; exact ⟨by omega, this.2⟩
theorem gdT_inc : ∀ i, ∀ k, k + 1 < (gdT bs n i).length → nth (gdT bs n i) k < nth (gdT bs n i) (k + 1)
 | 0, k, h => by cases h
 | i + 1, k, h => by
   by_cases hc : nth bs i = false ∧ (gdT bs n i).length < n
   · rw [gdT_take hc.1 hc.2] at h ⊢
     rw [List.length_append] at h
     simp at h
     rw [nth_app, nth_app, if_pos (by omega)]
     by_cases e : k + 1 < (gdT bs n i).length
     · rw [if_pos e]; exact gdT_inc i k e
     · rw [if_neg e, show k + 1 - (gdT bs n i).length = 0 from by omega, nth_zero]
       exact (gdT_lt i _ (nth_mem (by omega))).1
   · rw [gdT, if_neg hc] at h ⊢
     exact gdT_inc i k h
theorem gdT_wfr (hc : cnt bs (n + 3) ≤ 3) : Wfr n (gdT bs n (n + 3)) := by
 have hl : (gdT bs n (n + 3)).length = n := by rw [gdT_len]; omega
 exact ⟨hl, fun i hi => (gdT_lt _ _ (nth_mem (by omega))).1, fun k hk => gdT_inc _ k (by omega)⟩
def decP (ps : List Blk) (bs : List Bool) (n j : Nat) : List Blk := (List.range (n + 3)).map fun i => if i < j ∧ nth bs i = true then comb (wts n (gdT bs n (n + 3)) i) ((gdT bs n (n + 3)).map (nth ps)) n else nth ps i
def decL (ps : List Blk) (bs : List Bool) (n : Nat) : List Blk := decP ps bs n (n + 3)
theorem decP_len (ps : List Blk) (bs : List Bool) (n j : Nat) : (decP ps bs n j).length = n + 3 := by simp [decP]
theorem decP_nth (ps : List Blk) (bs : List Bool) (n j : Nat) {i : Nat} (h : i < n + 3) : nth (decP ps bs n j) i = if i < j ∧ nth bs i = true then comb (wts n (gdT bs n (n + 3)) i) ((gdT bs n (n + 3)).map (nth ps)) n else nth ps i := nth_range _ h
theorem decP_zero {ps : List Blk} (h : ps.length = n + 3) : decP ps bs n 0 = ps := list_ext_nth (by rw [decP_len, h]) fun k hk => by
 rw [decP_nth _ _ _ _ (by rw [decP_len] at hk; exact hk), if_neg (by omega)]
theorem decP_set {ps : List Blk} {j : Nat} (hj : j < n + 3) (hb : nth bs j = true) : (decP ps bs n j).set j (comb (wts n (gdT bs n (n + 3)) j) ((gdT bs n (n + 3)).map (nth ps)) n) = decP ps bs n (j + 1) :=
 list_ext_nth (by rw [List.length_set, decP_len, decP_len]) fun q hq => by
   have hq3 : q < n + 3 := by rw [List.length_set, decP_len] at hq; exact hq
   rw [nth_set_eq (by rw [decP_len]; exact hj), decP_nth _ _ _ _ hq3, decP_nth _ _ _ _ hq3]
   by_cases e : q = j
   · subst e; rw [if_pos rfl, if_pos ⟨by omega, hb⟩]
   · rw [if_neg e]
     by_cases e2 : q < j ∧ nth bs q = true
     · rw [if_pos e2, if_pos ⟨by omega, e2.2⟩]
     · rw [if_neg e2, if_neg fun h => e2 ⟨by omega, h.2⟩]
theorem decP_skip {ps : List Blk} {j : Nat} (hb : ¬ nth bs j = true) : decP ps bs n j = decP ps bs n (j + 1) := List.map_congr_left fun q _ => by
 by_cases e : q < j ∧ nth bs q = true
 · rw [if_pos e, if_pos ⟨by omega, e.2⟩]
 · rw [if_neg e, if_neg fun h => e ⟨by
     have h1 := h.1
     have : q ≠ j := fun h' => hb (h' ▸ h.2)
     omega, h.2⟩]
end Go.Proofs.YtdcijljfgcjelaaGreat
namespace Go.Proofs.YtdcijljfgcjelaaGreat
set_option maxRecDepth 20000
open Go.RowKit
attribute [local irreducible] Calls
theorem kvs_snoc (l : List Blk) (b : Blk) : kvs l ++ b.cells = kvs (l ++ [b]) := by simp [kvs]
set_option maxHeartbeats 4000000 in
theorem decode_c (vp vb : Value) (ps : List Blk) (bs : List Bool) (n : Nat) (w : World) (hp : Sl w 8 vp ps.length (kvs ps)) (hb : Sl w 1 vb bs.length (bls bs)) (h1 : 1 ≤ n) (h2 : n ≤ 13) (hpl : ps.length = n + 3) (hbl : bs.length = n + 3) :
   Calls Tryz.prog 13 #[vp, vb] w fun e w' => ∃ v' M, e = .returned v' ∧ H w M w' ∧ ((3 < cnt bs (n + 3) ∧ v' = .tuple #[.slice none 0 0, iv 12]) ∨ (cnt bs (n + 3) ≤ 3 ∧ ∃ A c, v' = .tuple #[.slice A (n + 3) c, iv 0] ∧ M = [vec A (n + 3) c 41 8 (kvs (decL ps bs n))])) := by
 obtain ⟨A, c, rfl, hcc, hm, hs⟩ := hp.open_
 obtain ⟨B, d, rfl, hcd, hmd, hsb⟩ := hb.open_
 obtain ⟨m, hmn⟩ : ∃ m, m = n + 3 := ⟨_, rfl⟩
 rw [← hmn] at hpl hbl ⊢
 have hsub : IntKind.i64.wrap ((m : Int) - 3) = (n : Int) := by rw [IntWalk.i64_in _ (by omega)]; omega
 have hpos : ∀ w', Calls Tryz.prog 39 #[iv m] w' fun e w2 => e = .returned (.bool true) ∧ Below w'.heap.size w' w2 := fun w' => by
   have := possible_i m w'
   rwa [decide_eq_true (by omega)] at this
 rw [hpl] at hs hcc
 rw [hbl] at hsb hcd
 rw [hpl, hbl]
 refine calls_wc (args := [.slice A m c, .slice B m d]) [4, 5] [] Tryz.func13 rfl Tryz.ntmps13 rfl rfl rfl rfl (H.refl w) ?_
 refine uS rfl fun K hK => ?_
 iterate 2 refine jm rfl rfl ?_
 refine wN hK ?_; clear hK
 refine uS rfl fun K hK => ?_
 refine jm rfl rfl ?_
 refine jn rfl rfl rfl ?_
 refine jm rfl rfl ?_
 refine wN hK ?_; clear hK
 refine WC.seq fun K hK => ?_
 refine uS rfl fun K hK => ?_
 refine jm rfl rfl ?_
 refine WL.want rfl (WL1.callP rfl rfl rfl (.cons (.mk (v := .int _ _) rfl rfl) .nil) (fun w hw => hpos w) ?_)
 iterate 2 refine jm rfl rfl ?_
 refine qm rfl rfl ?_
 refine qn rfl rfl rfl ?_
 refine qm rfl rfl ?_
 refine qf rfl rfl (by omega) ?_
 refine jm rfl rfl ?_
 refine wN hK ?_; clear hK
 refine uF rfl rfl ?_
 refine WC.skip ?_
 (refine hK _ _ ?_; clear hK)
 refine uS rfl fun K hK => ?_
 refine jm rfl rfl ?_
 refine wN hK ?_; clear hK
 refine uS rfl fun K hK => ?_
 refine jm rfl rfl ?_
 refine wN hK ?_; clear hK
 refine WC.seq fun K hK => ?_
 refine uS rfl fun K hK => ?_
 refine jm rfl rfl ?_
 refine jn rfl rfl rfl ?_
 refine jm rfl rfl ?_
 refine wN hK ?_; clear hK
 refine WC.block ?_
 refine WC.nilvec 3 1 (WC.nilvec 41 8 ?_)
 refine WC.loopF5 (fun (i : Nat) (F : Option Addr) (fc : Nat) (Y : Option Addr) (yc : Nat) => [(29, iv i), (7, .slice F (gdT bs n i).length fc), (8, .slice Y (gdT bs n i).length yc), (0, .slice A m c), (1, .slice B m d), (6, iv m), (27, .slice B m d), (28, iv m), (4, .slice none 0 0), (5, iv 0)]) (fun i F fc Y yc => [vec F (gdT bs n i).length fc 3 1 (ldv (gdT bs n i)), vec Y (gdT bs n i).length yc 41 8 (kvs ((gdT bs n i).map (nth ps)))]) (fun i _ _ _ _ => i ≤ m) (fun i _ _ _ _ => m - i) 0 none 0 none 0 (by repeat (first | exact trivial | refine ⟨rfl, ?_⟩)) (Imp.pick (A := vec none 0 0 3 1 []) (by repeat constructor) (Imp.pick (A := vec none 0 0 41 8 []) (by repeat constructor) (Imp.nil _))) (by omega) ?_
 intro i F fc Y yc U hi
 have hgl := gdT_len (bs := bs) (n := n) i
 obtain ⟨g, hg⟩ : ∃ g, g = gdT bs n i := ⟨_, rfl⟩
 rw [← hg] at hgl ⊢
 have hml : (g.map (nth ps)).length = g.length := by rw [List.length_map]
 by_cases hlt : i < m
 · have hgv := bls_get (l := bs) (k := i) (by omega)
   cases hbi : nth bs i with
   | true =>
     rw [hbi] at hgv
     have hst : gdT bs n (i + 1) = g := by rw [gdT_bad hbi, hg]
     refine uS rfl fun K hK => ?_
     refine jt rfl rfl (by omega) ?_
     refine wN hK ?_; clear hK
     refine WC.seq fun K hK => ?_
     refine uT rfl rfl ?_
     refine WC.skip ?_
     (refine hK _ _ ?_; clear hK)
     refine WC.seq fun K hK => ?_
     refine WC.block ?_
     refine uS rfl fun K hK => ?_
     refine jm rfl rfl ?_
     refine wG rfl rfl (g_indexAddr (sz := 1) rfl (.mk rfl rfl) (.mk rfl rfl) rfl rfl rfl (by omega) (fun _ _ => sl_some hsb (by omega))) ?_
     refine jl rfl rfl rfl (rd_sl hsb hgv) ?_
     iterate 2 refine jm rfl rfl ?_
     refine wN hK ?_; clear hK
     refine uS rfl fun K hK => ?_
     iterate 3 refine jm rfl rfl ?_
     iterate 5 refine ut rfl rfl ?_
     refine jm rfl rfl ?_
     refine wN hK ?_; clear hK
     refine uF rfl rfl ?_
     refine WC.skip ?_
     (refine hK _ _ ?_; clear hK)
     refine WC.region rfl ?_
     refine ji rfl rfl (by omega) ?_
     refine jm rfl rfl ?_
     refine WL.nil ?_
     exact ⟨i + 1, F, fc, Y, yc, by rw [hst]; exact (by repeat (first | exact trivial | refine ⟨rfl, ?_⟩)), by rw [hst]; exact .refl _, by omega, by omega⟩
   | false =>
     rw [hbi] at hgv
     by_cases hfl : g.length < n
     · have hst : gdT bs n (i + 1) = g ++ [i] := by rw [gdT_take hbi (by rw [← hg]; exact hfl), hg]
       have hgd : ∀ j u, (nth ps i).cells[j]? = some u → (kvs ps)[i * 8 + j]? = some u := fun j u h => flat_row blk8 (by omega) j u h
       have hl1 : (g ++ [i]).length = g.length + 1 := by rw [List.length_append]; rfl
       have hmp : (g ++ [i]).map (nth ps) = g.map (nth ps) ++ [nth ps i] := by rw [List.map_append]; rfl
       have hbb : ∀ {w' : World} {L' : List Asrt} {b : Nat} (hw : H w L' w') (hm : vec (some ⟨b, 0, none⟩) 1 1 41 8 (nth ps i).cells ∈ L'), Sl w' 8 (.slice (some ⟨b, 0, none⟩) 1 1) 1 (nth ps i).cells := fun hw hm => Sl.of_vec hw hm
       refine uS rfl fun K hK => ?_
       refine jt rfl rfl (by omega) ?_
       refine wN hK ?_; clear hK
       refine WC.seq fun K hK => ?_
       refine uT rfl rfl ?_
       refine WC.skip ?_
       (refine hK _ _ ?_; clear hK)
       refine WC.seq fun K hK => ?_
       refine WC.block ?_
       refine uS rfl fun K hK => ?_
       refine jm rfl rfl ?_
       refine wG rfl rfl (g_indexAddr (sz := 1) rfl (.mk rfl rfl) (.mk rfl rfl) rfl rfl rfl (by omega) (fun _ _ => sl_some hsb (by omega))) ?_
       refine jl rfl rfl rfl (rd_sl hsb hgv) ?_
       iterate 2 refine jm rfl rfl ?_
       refine wN hK ?_; clear hK
       refine uS rfl fun K hK => ?_
       iterate 3 refine jm rfl rfl ?_
       refine qm rfl rfl ?_
       refine qn rfl rfl rfl ?_
       refine qm rfl rfl ?_
       refine qW rfl (WL1.give rfl (g_sub rfl (.mk rfl rfl) (.mk rfl rfl) hsub) ?_)
       refine qt rfl rfl (by omega) ?_
       refine jm rfl rfl ?_
       refine wN hK ?_; clear hK
       refine uT rfl rfl ?_
       refine WC.until [] [] rfl (by kernel_rfl) ?_
       refine uP 0 rfl (by decide +kernel) (.inr (iS (by repeat constructor))) rfl rfl ?_
       refine uP 1 rfl (by decide +kernel) (.inr (iS (by repeat constructor))) rfl rfl ?_
       refine uP 4 rfl (by decide +kernel) (.inr (iS (by repeat constructor))) rfl rfl ?_
       refine uP 5 rfl (by decide +kernel) (.inr (iS (by repeat constructor))) rfl rfl ?_
       refine uP 6 rfl (by decide +kernel) (.inr (iS (by repeat constructor))) rfl rfl ?_
       refine uG 7 rfl (by decide +kernel) (.inr (iS (by repeat constructor))) rfl ⟨rfl, g_indexAddr (sz := 8) rfl (.mk rfl rfl) (.mk rfl rfl) rfl rfl rfl (by omega) (fun _ _ => sl_some hs (by omega))⟩ ?_
       refine uB 8 rfl (by decide +kernel) (iS (by repeat constructor)) rfl ⟨rfl, g_loadA rfl (.mk rfl rfl) rfl (sz8 _) (rdr_sl hs (by omega) hgd)⟩ ?_
       refine WB.two 2 9 (by decide +kernel) rfl rfl rfl rfl ?_ ?_
       refine WL1.lit (cs := [_]) elI rfl rfl rfl (.cons (.mk (v := .int _ _) rfl rfl) .nil) rfl (by first | (simp [Value.cells]; done) | fail) rfl rfl (fun b45 => ?_)
       refine WL.nil ?_
       refine ⟨.inr (iS (by repeat constructor)), ?_⟩
       refine WB.two 3 9 (by decide +kernel) rfl rfl rfl rfl ?_ ?_
       refine WL1.append elI rfl rfl (.mk rfl rfl) (.mk rfl rfl) (.tail (.head)) (fun w hw => Sl.of_vec hw (.head _)) (all1 rfl) (by unfold maxLen; omega) (by omega) (fun A46 c46 => ?_)
       refine WL.nil ?_
       refine ⟨.inr (iS (by repeat constructor)), ?_⟩
       refine WB.one 9 (by decide +kernel) rfl rfl ?_
       refine WL1.lit elK rfl rfl rfl (.cons (.mk (v := .agg _) rfl rfl) .nil) rfl (by first | (simp [Value.cells, Blk.len]; done) | fail) (List.append_nil _) rfl (fun b52 => ?_)
       refine WL.nil ?_
       refine ⟨.inr (iS (by repeat constructor)), ?_⟩
       refine WB.one 10 (by decide +kernel) rfl rfl ?_
       refine WL1.append elK rfl rfl (.mk rfl rfl) (.mk rfl rfl) (.tail (.tail (.tail (.head)))) (fun w hw => Sl.of_vec hw (.head _)) (Blk.one _) (by unfold maxLen; omega) (by omega) (fun A53 c53 => ?_)
       refine WL.nil ?_
       refine ⟨.inr (iS (by repeat constructor)), ?_⟩
       refine uP 11 rfl (by decide +kernel) (.inr (iS (by repeat constructor))) rfl rfl ?_
       refine uP 12 rfl (by decide +kernel) (.inr (iS (by repeat constructor))) rfl rfl ?_
       refine WB.done (by decide +kernel) ?_
       (refine hK _ _ ?_; clear hK)
       refine WC.region rfl ?_
       refine ji rfl rfl (by omega) ?_
       refine jm rfl rfl ?_
       refine WL.nil ?_
       rotate_left
       refine WL1.lit elK rfl rfl rfl (.cons (.mk (v := .agg _) rfl rfl) .nil) rfl (by first | (simp [Value.cells, Blk.len]; done) | fail) (List.append_nil _) rfl (fun b52 => ?_)
       refine WL.nil ?_
       refine ⟨.inr (iS (by repeat constructor)), ?_⟩
       refine WB.one 3 (by decide +kernel) rfl rfl ?_
       refine WL1.append elI rfl rfl (.mk rfl rfl) (.mk rfl rfl) (.tail (.tail (.head))) (fun w hw => Sl.of_vec hw (.tail _ (.head _))) (all1 rfl) (by unfold maxLen; omega) (by omega) (fun A46 c46 => ?_)
       refine WL.nil ?_
       refine ⟨.inr (iS (by repeat constructor)), ?_⟩
       refine WB.one 10 (by decide +kernel) rfl rfl ?_
       refine WL1.append elK rfl rfl (.mk rfl rfl) (.mk rfl rfl) (.tail (.tail (.tail (.head)))) (fun w hw => Sl.of_vec hw (.tail _ (.head _))) (Blk.one _) (by unfold maxLen; omega) (by omega) (fun A53 c53 => ?_)
       refine WL.nil ?_
       refine ⟨.inr (iS (by repeat constructor)), ?_⟩
       refine uP 11 rfl (by decide +kernel) (.inr (iS (by repeat constructor))) rfl rfl ?_
       refine uP 12 rfl (by decide +kernel) (.inr (iS (by repeat constructor))) rfl rfl ?_
       refine WB.done (by decide +kernel) ?_
       (refine hK _ _ ?_; clear hK)
       refine WC.region rfl ?_
       refine ji rfl rfl (by omega) ?_
       refine jm rfl rfl ?_
       refine WL.nil ?_
       rotate_left
       refine WL1.lit elK rfl rfl rfl (.cons (.mk (v := .agg _) rfl rfl) .nil) rfl (by first | (simp [Value.cells, Blk.len]; done) | fail) (List.append_nil _) rfl (fun b52 => ?_)
       refine WL.nil ?_
       refine ⟨.inr (iS (by repeat constructor)), ?_⟩
       refine WB.one 2 (by decide +kernel) rfl rfl ?_
       refine WL1.lit (cs := [_]) elI rfl rfl rfl (.cons (.mk (v := .int _ _) rfl rfl) .nil) rfl (by first | (simp [Value.cells]; done) | fail) rfl rfl (fun b45 => ?_)
       refine WL.nil ?_
       refine ⟨.inr (iS (by repeat constructor)), ?_⟩
       refine WB.one 3 (by decide +kernel) rfl rfl ?_
       refine WL1.append elI rfl rfl (.mk rfl rfl) (.mk rfl rfl) (.tail (.tail (.head))) (fun w hw => Sl.of_vec hw (.head _)) (all1 rfl) (by unfold maxLen; omega) (by omega) (fun A46 c46 => ?_)
       refine WL.nil ?_
       refine ⟨.inr (iS (by repeat constructor)), ?_⟩
       refine WB.one 10 (by decide +kernel) rfl rfl ?_
       refine WL1.append elK rfl rfl (.mk rfl rfl) (.mk rfl rfl) (.tail (.tail (.tail (.head)))) (fun w hw => Sl.of_vec hw (.tail _ (.tail _ (.head _)))) (Blk.one _) (by unfold maxLen; omega) (by omega) (fun A53 c53 => ?_)
       refine WL.nil ?_
       refine ⟨.inr (iS (by repeat constructor)), ?_⟩
       refine uP 11 rfl (by decide +kernel) (.inr (iS (by repeat constructor))) rfl rfl ?_
       refine uP 12 rfl (by decide +kernel) (.inr (iS (by repeat constructor))) rfl rfl ?_
       refine WB.done (by decide +kernel) ?_
       (refine hK _ _ ?_; clear hK)
       refine WC.region rfl ?_
       refine ji rfl rfl (by omega) ?_
       refine jm rfl rfl ?_
       refine WL.nil ?_
       rotate_left
       all_goals refine ⟨i + 1, A46, c46, A53, c53, by rw [hst, hl1]; exact (by repeat (first | exact trivial | refine ⟨rfl, ?_⟩)), ?_, by omega, by omega⟩
       all_goals rw [hst, hl1, hmp, ← ldv_snoc, ← kvs_snoc]
       all_goals exact Imp.pick (by repeat constructor) (Imp.pick (by repeat constructor) (Imp.nil _))
     · have hst : gdT bs n (i + 1) = g := by rw [gdT_over (by rw [← hg]; exact hfl), hg]
       refine uS rfl fun K hK => ?_
       refine jt rfl rfl (by omega) ?_
       refine wN hK ?_; clear hK
       refine WC.seq fun K hK => ?_
       refine uT rfl rfl ?_
       refine WC.skip ?_
       (refine hK _ _ ?_; clear hK)
       refine WC.seq fun K hK => ?_
       refine WC.block ?_
       refine uS rfl fun K hK => ?_
       refine jm rfl rfl ?_
       refine wG rfl rfl (g_indexAddr (sz := 1) rfl (.mk rfl rfl) (.mk rfl rfl) rfl rfl rfl (by omega) (fun _ _ => sl_some hsb (by omega))) ?_
       refine jl rfl rfl rfl (rd_sl hsb hgv) ?_
       iterate 2 refine jm rfl rfl ?_
       refine wN hK ?_; clear hK
       refine uS rfl fun K hK => ?_
       iterate 3 refine jm rfl rfl ?_
       refine qm rfl rfl ?_
       refine qn rfl rfl rfl ?_
       refine qm rfl rfl ?_
       refine qW rfl (WL1.give rfl (g_sub rfl (.mk rfl rfl) (.mk rfl rfl) hsub) ?_)
       refine qf rfl rfl (by omega) ?_
       refine jm rfl rfl ?_
       refine wN hK ?_; clear hK
       refine uF rfl rfl ?_
       refine WC.skip ?_
       (refine hK _ _ ?_; clear hK)
       refine WC.region rfl ?_
       refine ji rfl rfl (by omega) ?_
       refine jm rfl rfl ?_
       refine WL.nil ?_
       exact ⟨i + 1, F, fc, Y, yc, by rw [hst]; exact (by repeat (first | exact trivial | refine ⟨rfl, ?_⟩)), by rw [hst]; exact .refl _, by omega, by omega⟩
 · obtain rfl : i = m := by omega
   have hcl := cnt_le (bs := bs) i
   by_cases hfl : g.length < n
   · refine uS rfl fun K hK => ?_
     refine jf rfl rfl (by omega) ?_
     refine wN hK ?_; clear hK
     refine WC.seq fun K hK => ?_
     refine uF rfl rfl ?_
     refine WC.exit ?_
     (clear hK; refine hK _ _ ?_; clear hK)
     refine WC.seq fun K hK => ?_
     refine uS rfl fun K hK => ?_
     refine jm rfl rfl ?_
     refine jn rfl rfl rfl ?_
     refine jm rfl rfl ?_
     refine wG rfl rfl (g_sub rfl (.mk rfl rfl) (.mk rfl rfl) hsub) ?_
     refine jt rfl rfl (by omega) ?_
     refine wN hK ?_; clear hK
     refine uT rfl rfl ?_
     refine uS rfl fun K hK => ?_
     iterate 2 refine jm rfl rfl ?_
     refine wN hK ?_; clear hK
     refine WC.ret ?_
     exact fun w' hw' => ⟨_, _, rfl, hw', .inl ⟨by omega, rfl⟩⟩
   · have hc3 : cnt bs (n + 3) ≤ 3 := by rw [← hmn]; omega
     have hgn : g.length = n := by omega
     have hw := gdT_wfr hc3
     rw [← hmn, ← hg] at hw
     have hcln : ∀ w', Below w.heap.size w w' → Calls Tryz.prog 40 #[.slice A i c] w' fun e w2 => ∃ v' M, e = .returned v' ∧ H w' M w2 ∧ ∃ A c, v' = .slice A i c ∧ M = [vec A i c 41 8 (kvs (decP ps bs n 0))] := fun w' hb => by
       have := clone_n (.slice A i c) ps w' (by rw [hpl]; exact hs.below hb) (by omega) (by omega)
       rwa [hpl, ← decP_zero (bs := bs) (by omega : ps.length = n + 3)] at this
     rw [hgn]
     refine uS rfl fun K hK => ?_
     refine jf rfl rfl (by omega) ?_
     refine wN hK ?_; clear hK
     refine WC.seq fun K hK => ?_
     refine uF rfl rfl ?_
     refine WC.exit ?_
     (clear hK; refine hK _ _ ?_; clear hK)
     refine WC.seq fun K hK => ?_
     refine uS rfl fun K hK => ?_
     refine jm rfl rfl ?_
     refine jn rfl rfl rfl ?_
     refine jm rfl rfl ?_
     refine wG rfl rfl (g_sub rfl (.mk rfl rfl) (.mk rfl rfl) hsub) ?_
     refine jf rfl rfl (by omega) ?_
     refine wN hK ?_; clear hK
     refine uF rfl rfl ?_
     refine WC.skip ?_
     (refine hK _ _ ?_; clear hK)
     refine uS rfl fun K hK => ?_
     refine jm rfl rfl ?_
     (refine WL.want rfl (WL1.callN rfl rfl rfl (.cons (.mk (v := .slice _ _ _) rfl rfl) .nil) (fun w hw => hcln w hw.1) ?_); rintro _ _ ⟨Ac, cc, rfl, rfl⟩)
     refine jm rfl rfl ?_
     refine wN hK ?_; clear hK
     refine WC.seq fun K hK => ?_
     refine uS rfl fun K hK => ?_
     refine jm rfl rfl ?_
     refine jn rfl rfl rfl ?_
     refine jm rfl rfl ?_
     refine wN hK ?_; clear hK
     refine WC.block ?_
     refine WC.loopF (fun j : Nat => [(64, iv j), (6, iv i), (7, .slice F n fc), (8, .slice Y n yc), (11, .slice Ac i cc), (62, .slice B i d), (63, iv i), (4, .slice none 0 0), (5, iv 0)]) (fun j => [vec Ac i cc 41 8 (kvs (decP ps bs n j)), vec F n fc 3 1 (ldv g), vec Y n yc 41 8 (kvs (g.map (nth ps)))]) (fun j => j ≤ i) (fun j => i - j) 0 (by repeat (first | exact trivial | refine ⟨rfl, ?_⟩)) (.refl _) (by omega) ?_
     intro j V hj
     have hdl := decP_len ps bs n j
     have hkl : (kvs (decP ps bs n j)).length = i * 8 := by rw [kvs_len, hdl, hmn]
     by_cases hlt2 : j < i
     · have hgv := bls_get (l := bs) (k := j) (by omega)
       cases hbj : nth bs j with
       | false =>
         rw [hbj] at hgv
         refine uS rfl fun K hK => ?_
         refine jt rfl rfl (by omega) ?_
         refine wN hK ?_; clear hK
         refine WC.seq fun K hK => ?_
         refine uT rfl rfl ?_
         refine WC.skip ?_
         (refine hK _ _ ?_; clear hK)
         refine WC.seq fun K hK => ?_
         refine WC.block ?_
         refine uS rfl fun K hK => ?_
         refine jm rfl rfl ?_
         refine wG rfl rfl (g_indexAddr (sz := 1) rfl (.mk rfl rfl) (.mk rfl rfl) rfl rfl rfl (by omega) (fun _ _ => sl_some hsb (by omega))) ?_
         refine jl rfl rfl rfl (rd_sl hsb hgv) ?_
         iterate 2 refine jm rfl rfl ?_
         refine wN hK ?_; clear hK
         refine WC.seq fun K hK => ?_
         refine uS rfl fun K hK => ?_
         iterate 2 refine jm rfl rfl ?_
         refine wN hK ?_; clear hK
         refine uT rfl rfl ?_
         refine WC.exit ?_
         (clear hK; refine hK _ _ ?_; clear hK)
         refine WC.region rfl ?_
         refine ji rfl rfl (by omega) ?_
         refine jm rfl rfl ?_
         refine WL.nil ?_
         exact ⟨j + 1, (by repeat (first | exact trivial | refine ⟨rfl, ?_⟩)), by rw [decP_skip (by rw [hbj]; exact Bool.false_ne_true)]; exact .refl _, by omega, by omega⟩
       | true =>
         rw [hbj] at hgv
         have hwt : ∀ w', Sl w' 1 (.slice F n fc) n (ldv g) → Calls Tryz.prog 41 #[iv i, .slice F n fc, iv j] w' fun e w2 => ∃ v' M, e = .returned v' ∧ H w' M w2 ∧ ∃ A c, v' = .tuple #[.slice A n c, iv 0] ∧ M = [vec A n c 5 1 (bvs (wts n g j))] := fun w' h => weights_n _ i n j g w' (by rw [hgn]; exact h) hmn h1 h2 hw hlt2
         have hwl := wts_len n g j
         have hcb : ∀ (v1 : Value) (w' : World), Sl w' 1 v1 n (bvs (wts n g j)) → Sl w' 8 (.slice Y n yc) n (kvs (g.map (nth ps))) → Calls Tryz.prog 42 #[v1, .slice Y n yc] w' fun e w2 => e = .returned (.tuple #[kv (comb (wts n g j) (g.map (nth ps)) n), iv 0]) ∧ Below w'.heap.size w' w2 := fun v1 w' q1 q2 => by
           have := combine_e v1 (.slice Y n yc) (wts n g j) (g.map (nth ps)) w' (by rw [hwl]; exact q1) (by rw [hml, hgn]; exact q2) (by rw [hwl, hml, hgn]) (by omega)
           rwa [hwl] at this
         have hset : (decP ps bs n j).set j (comb (wts n g j) (g.map (nth ps)) n) = decP ps bs n (j + 1) := by
           have := decP_set (ps := ps) (bs := bs) (n := n) (j := j) (by omega) hbj
           rwa [← hmn, ← hg] at this
         have hsp : ∀ i0 v0, i0 = j * 8 → v0 = (comb (wts n g j) (g.map (nth ps)) n).cells → spl (kvs (decP ps bs n j)) i0 v0 = kvs (decP ps bs n (j + 1)) := fun i0 v0 h h' => (kvs_spl (by omega) h h').trans (congrArg kvs hset)
         refine uS rfl fun K hK => ?_
         refine jt rfl rfl (by omega) ?_
         refine wN hK ?_; clear hK
         refine WC.seq fun K hK => ?_
         refine uT rfl rfl ?_
         refine WC.skip ?_
         (refine hK _ _ ?_; clear hK)
         refine WC.seq fun K hK => ?_
         refine WC.block ?_
         refine uS rfl fun K hK => ?_
         refine jm rfl rfl ?_
         refine wG rfl rfl (g_indexAddr (sz := 1) rfl (.mk rfl rfl) (.mk rfl rfl) rfl rfl rfl (by omega) (fun _ _ => sl_some hsb (by omega))) ?_
         refine jl rfl rfl rfl (rd_sl hsb hgv) ?_
         iterate 2 refine jm rfl rfl ?_
         refine wN hK ?_; clear hK
         refine WC.seq fun K hK => ?_
         refine uS rfl fun K hK => ?_
         iterate 2 refine jm rfl rfl ?_
         refine wN hK ?_; clear hK
         refine uF rfl rfl ?_
         refine WC.skip ?_
         (refine hK _ _ ?_; clear hK)
         refine uS rfl fun K hK => ?_
         iterate 3 refine jm rfl rfl ?_
         (refine WL.want rfl (WL1.callN rfl rfl rfl (.cons (.mk (v := .int _ _) rfl rfl) (.cons (.mk (v := .slice _ _ _) rfl rfl) (.cons (.mk (v := .int _ _) rfl rfl) .nil))) (fun w hw => hwt w (Sl.of_vec hw (by repeat constructor))) ?_); rintro _ _ ⟨Aw, cw, rfl, rfl⟩)
         iterate 5 refine jm rfl rfl ?_
         refine wN hK ?_; clear hK
         refine WC.seq fun K hK => ?_
         refine uS rfl fun K hK => ?_
         refine jm rfl rfl ?_
         refine jf rfl rfl (by omega) ?_
         refine wN hK ?_; clear hK
         refine uF rfl rfl ?_
         refine WC.skip ?_
         (refine hK _ _ ?_; clear hK)
         refine WC.region rfl ?_
         iterate 4 refine jm rfl rfl ?_
         refine WL.want rfl (WL1.callP rfl rfl rfl (.cons (.mk (v := .slice _ _ _) rfl rfl) (.cons (.mk (v := .slice _ _ _) rfl rfl) .nil)) (fun w hw => hcb _ w (Sl.of_vec hw (by repeat constructor)) (Sl.of_vec hw (by repeat constructor))) ?_)
         iterate 3 refine jm rfl rfl ?_
         refine wG rfl rfl (g_indexAddr (sz := 8) rfl (.mk rfl rfl) (.mk rfl rfl) rfl rfl rfl (by omega) (fun w hw => vec_some hw (.tail _ (.head _)) (by omega))) ?_
         refine WL.want rfl (WL1.storeVA rfl rfl (.mk rfl rfl) (.mk rfl rfl) (sz8 _) (Blk.one _) (by first | decide | omega | exact Nat.le_of_ble_eq_true rfl | (simp; done) | (simp; omega) | (rw [Blk.len]; omega)) (by first | omega | (rw [Blk.len]; omega) | (simp; done) | (simp; omega)) (.tail (.head)) ?_)
         refine wN hK ?_; clear hK
         refine WC.region rfl ?_
         refine ji rfl rfl (by omega) ?_
         refine jm rfl rfl ?_
         refine WL.nil ?_
         refine ⟨j + 1, (by repeat (first | exact trivial | refine ⟨rfl, ?_⟩)), ?_, by omega, by omega⟩
         rw [hsp]
         · exact Imp.pick (by repeat constructor) (Imp.pick (by repeat constructor) (Imp.pick (by repeat constructor) (Imp.nil _)))
         · omega
         · rfl
     · obtain rfl : j = i := by omega
       have hfin : decP ps bs n j = decL ps bs n := by rw [decL, hmn]
       rw [hfin]
       refine uS rfl fun K hK => ?_
       refine jf rfl rfl (by omega) ?_
       refine wN hK ?_; clear hK
       refine WC.seq fun K hK => ?_
       refine uF rfl rfl ?_
       refine WC.exit ?_
       (clear hK; refine hK _ _ ?_; clear hK)
       refine uS rfl fun K hK => ?_
       iterate 3 refine jm rfl rfl ?_
       refine wN hK ?_; clear hK
       refine WC.ret ?_
       exact fun w' hw' => ⟨_, _, rfl, hw'.sub (.cons_cons _ (.cons _ (.cons _ .slnil))), .inr ⟨by rw [hmn]; exact hc3, Ac, cc, rfl, rfl⟩⟩
def mksP (m : Nat) (l : List G) (i : Nat) : List Bool := (List.range m).map fun q => (List.range i).any fun j => decide ((nth l j).val < 240 ∧ (nth l j).val % m = q)
def locV (n : Nat) (s0 s1 s2 : Blk) : Int × Int :=
 if s0 = 0 ∧ s1 = 0 ∧ s2 = 0 then (0, 9)
 else if s1 = 0 ∧ s2 = 0 then (n, 0)
 else if s0 = 0 ∧ s2 = 0 then ((n + 1 : Nat), 0)
 else if s0 = 0 ∧ s1 = 0 then ((n + 2 : Nat), 0)
 else if s0 = 0 then (0, 12)
 else match fnd (fun i => decide (s1 = gpow 2 i * s0 ∧ s2 = gpow 2 (2 * i) * s0)) n with
   | some i => (i, 0)
   | none => (0, 12)
end Go.Proofs.YtdcijljfgcjelaaGreat
namespace Go.Proofs.YtdcijljfgcjelaaGreat
set_option maxRecDepth 20000
open Go.RowKit
def Err1 (n : Nat) (s : Nat → Blk) (k : Nat) : Prop := ∃ e : Blk, e ≠ 0 ∧ ∀ q, q < 3 → s q = col n q k * e
theorem other {n a b : Nat} (h1 : 1 ≤ n) (_ha : a < n + 3) (_hb : b < n + 3) : ∃ c, c < n + 3 ∧ a ≠ c ∧ b ≠ c := by
 by_cases h0 : a ≠ 0 ∧ b ≠ 0
 · exact ⟨0, by omega, h0.1, h0.2⟩
 · by_cases h2 : a ≠ 1 ∧ b ≠ 1
   · exact ⟨1, by omega, h2.1, h2.2⟩
   · exact ⟨2, by omega, by omega, by omega⟩
def oneB (m i : Nat) : List Bool := (List.replicate m false).set i true
def gOf (k : Nat) : G := ⟨k % 256, Nat.mod_lt _ (by omega)⟩
def gnz (a : G) : Bool := decide (a ≠ 0)
end Go.Proofs.YtdcijljfgcjelaaGreat
namespace Go.Proofs.YtdcijljfgcjelaaGreat
set_option maxRecDepth 20000
open Go.RowKit
attribute [local irreducible] Calls
def rowG (n p : Nat) : List G := (List.range n).map (gen n p)
def rowGP (n p i : Nat) : List G := (List.range n).map fun q => if q < i then gen n p q else 0
theorem decode_k {vp vb : Value} {ps qs : List Blk} {bs : List Bool} {n m : Nat} {w : World} (hm : m = n + 3) (h1 : 1 ≤ n) (h2 : n ≤ 13) (hpl : ps.length = n + 3) (hbl : bs.length = n + 3) (hc : cnt bs (n + 3) ≤ 3) (hd : decL ps bs n = qs) (hp : Sl w 8 vp m (kvs ps)) (hb : Sl w 1 vb m (bls bs)) :
   Calls Tryz.prog 13 #[vp, vb] w fun e w' => ∃ v' M, e = .returned v' ∧ H w M w' ∧ ∃ A c, v' = .tuple #[.slice A m c, iv 0] ∧ M = [vec A m c 41 8 (kvs qs)] := by
 subst hm; subst hd
 refine (decode_c vp vb ps bs n w (by rw [hpl]; exact hp) (by rw [hbl]; exact hb) h1 h2 hpl hbl).mono fun e w' ⟨v', M, he, hM, h⟩ => ⟨v', M, he, hM, ?_⟩
 rcases h with ⟨h, _⟩ | ⟨_, h⟩
 · omega
 · exact h
theorem ex_enc : enc [lb 1, lb (gn 2)] = [lb (gn 3), lb (gn 5), lb (gn 9)] := by decide +kernel
theorem ex_dec25 : decL [lb 0, lb 0, lb (gn 3), lb (gn 5), lb (gn 9)] [true, true, false, false, false] 2 = [lb 1, lb (gn 2), lb (gn 3), lb (gn 5), lb (gn 9)] := by decide +kernel
theorem ex_cmp : Cmp 5 4 := cmpB_spec (by decide +kernel)
theorem ex_lay : Lay 5 4 4 3 (cmb 5 4 [] 0) 1 0 := ⟨dsgB_spec (by decide +kernel), balB_spec (by decide +kernel), by decide, by decide, by decide, by decide, by decide, by decide +kernel, by decide +kernel, by decide⟩
theorem encode_k {v : Value} {n : Nat} {ds qs : List Blk} {w : World} (hn : ds.length = n) (h1 : 1 ≤ n) (h2 : n ≤ 13) (hq : enc ds = qs) (hv : Sl w 8 v n (kvs ds)) : Calls Tryz.prog 28 #[v] w fun e w' => ∃ v' M, e = .returned v' ∧ H w M w' ∧
   ∃ b, v' = .tuple #[.slice (some ⟨b, 0, none⟩) 3 3, iv 0] ∧ M = [vec (some ⟨b, 0, none⟩) 3 3 41 8 (kvs qs)] := by
 subst hn; subst hq
 exact encode_n v ds w hv h1 h2
set_option maxHeartbeats 4000000 in
theorem awake_top (w : World) : Calls Tryz.prog 5 #[] w fun e w' => e = .returned (.bool true) ∧ Below w.heap.size w w' := by
 have hch : ∀ w, Calls Tryz.prog 29 #[iv 5, iv 4] w fun e w' => ∃ u M, e = .returned u ∧ H w M w' ∧ ∃ A c rs, rs.length = 5 ∧ Lay 5 4 4 3 (ils rs) 1 0 ∧ u = .tuple #[.agg #[iv 5, .slice A rs.length c], iv 0] ∧ M = dsgA A c rs := fun w =>
   (choose_n 5 4 w ex_cmp (by decide) (by decide)).mono fun e w' ⟨u, M, he, hH, A, c, rs, hrs, hu, hM⟩ => ⟨u, M, he, hH, A, c, rs, by have := congrArg List.length hrs; rw [List.length_map] at this; rw [this]; decide +kernel, by rw [hrs]; exact ex_lay, hu, hM⟩
 refine calls_wc (args := []) [0] [] Tryz.func5 rfl Tryz.ntmps5 rfl rfl rfl rfl (H.refl _) ?_
 have E2 : EqV Tryz.prog 41 (kv (lb (gn 2))) (kv (lb (gn 2))) true := blk_eq rfl
 have r0 : ∀ j u, (lb (gn 3)).cells[j]? = some u → (kvs [lb (gn 3), lb (gn 5), lb (gn 9)])[0 * 8 + j]? = some u := fun j u h => flat_row (l := [lb (gn 3), lb (gn 5), lb (gn 9)]) blk8 (by decide) j u h
 have r1 : ∀ j u, (lb (gn 5)).cells[j]? = some u → (kvs [lb (gn 3), lb (gn 5), lb (gn 9)])[1 * 8 + j]? = some u := fun j u h => flat_row (l := [lb (gn 3), lb (gn 5), lb (gn 9)]) blk8 (by decide) j u h
 have r2 : ∀ j u, (lb (gn 9)).cells[j]? = some u → (kvs [lb (gn 3), lb (gn 5), lb (gn 9)])[2 * 8 + j]? = some u := fun j u h => flat_row (l := [lb (gn 3), lb (gn 5), lb (gn 9)]) blk8 (by decide) j u h
 have r3 : ∀ j u, (lb (gn 2)).cells[j]? = some u → (kvs [lb 1, lb (gn 2), lb (gn 3), lb (gn 5), lb (gn 9)])[1 * 8 + j]? = some u := fun j u h => flat_row (l := [lb 1, lb (gn 2), lb (gn 3), lb (gn 5), lb (gn 9)]) blk8 (by decide) j u h
 refine uS rfl fun K hK => ?_
 refine jm rfl rfl ?_
 refine wN hK ?_; clear hK
 refine uS rfl fun K hK => ?_
 refine wG rfl rfl (g_buildArr (cs := [_, _, _, _, _, _, _, _]) rfl rfl rfl rfl rfl (.cons (.mk (v := .int _ _) rfl rfl) .nil) rfl rfl rfl) ?_
 refine wG rfl rfl (g_buildArr (cs := [_, _, _, _, _, _, _, _]) rfl rfl rfl rfl rfl (.cons (.mk (v := .int _ _) rfl rfl) .nil) rfl rfl rfl) ?_
 refine WL.want rfl (WL1.lit (cs := [_, _, _, _, _, _, _, _, _, _, _, _, _, _, _, _]) elK rfl rfl rfl (.cons (.mk (v := .agg _) rfl rfl) (.cons (.mk (v := .agg _) rfl rfl) .nil)) rfl (by first | (simp [Value.cells]; done) | fail) rfl rfl (fun b10 => ?_))
 (refine WL.want rfl (WL1.callN rfl rfl rfl (.cons (.mk (v := .slice _ _ _) rfl rfl) .nil) (fun w hw => encode_k (n := 2) (ds := [lb 1, lb (gn 2)]) rfl (by omega) (by omega) ex_enc (Sl.of_vec hw (.head _))) ?_); rintro _ _ ⟨bp, rfl, rfl⟩)
 iterate 5 refine jm rfl rfl ?_
 refine wN hK ?_; clear hK
 refine WC.seq fun K hK => ?_
 refine uS rfl fun K hK => ?_
 refine jm rfl rfl ?_
 refine jf rfl rfl (by omega) ?_
 refine jm rfl rfl ?_
 refine qm rfl rfl ?_
 refine qn rfl rfl rfl ?_
 refine qf rfl rfl (by omega) ?_
 refine jm rfl rfl ?_
 refine wN hK ?_; clear hK
 refine uF rfl rfl ?_
 refine WC.skip ?_
 (refine hK _ _ ?_; clear hK)
 refine WC.seq fun K hK => ?_
 refine WC.held [vec (some ⟨bp, 0, none⟩) 3 3 41 8 (kvs [lb (gn 3), lb (gn 5), lb (gn 9)])] rfl (by kernel_rfl) ?_
 refine uH 0 rfl (by decide +kernel) (iS (by repeat constructor)) rfl ⟨rfl, g_buildArr (cs := [_, _, _, _, _, _, _, _]) rfl rfl rfl rfl rfl .nil rfl rfl rfl⟩ ?_
 refine uH 1 rfl (by decide +kernel) (iS (by repeat constructor)) rfl ⟨rfl, g_buildArr (cs := [_, _, _, _, _, _, _, _]) rfl rfl rfl rfl rfl .nil rfl rfl rfl⟩ ?_
 refine uH 2 rfl (by decide +kernel) (iS (by repeat constructor)) rfl (Gm rfl) ?_
 refine uH 3 rfl (by decide +kernel) (iS (by repeat constructor)) rfl ⟨rfl, g_indexAddr (sz := 8) rfl (.mk rfl rfl) (.mk rfl rfl) rfl rfl (show _ = ((0 : Nat) : Int) from rfl) (by omega) (fun _ _ => rfl)⟩ ?_
 refine uH 4 rfl (by decide +kernel) (iS (by repeat constructor)) rfl ⟨rfl, g_loadA rfl (.mk rfl rfl) rfl rfl (rdr_vec (cs := (lb (gn 3)).cells) (by repeat constructor) (by omega) r0)⟩ ?_
 refine uH 5 rfl (by decide +kernel) (iS (by repeat constructor)) rfl (Gm rfl) ?_
 refine uH 6 rfl (by decide +kernel) (iS (by repeat constructor)) rfl ⟨rfl, g_indexAddr (sz := 8) rfl (.mk rfl rfl) (.mk rfl rfl) rfl rfl (show _ = ((1 : Nat) : Int) from rfl) (by omega) (fun _ _ => rfl)⟩ ?_
 refine uH 7 rfl (by decide +kernel) (iS (by repeat constructor)) rfl ⟨rfl, g_loadA rfl (.mk rfl rfl) rfl rfl (rdr_vec (cs := (lb (gn 5)).cells) (by repeat constructor) (by omega) r1)⟩ ?_
 refine uH 8 rfl (by decide +kernel) (iS (by repeat constructor)) rfl (Gm rfl) ?_
 refine uH 9 rfl (by decide +kernel) (iS (by repeat constructor)) rfl ⟨rfl, g_indexAddr (sz := 8) rfl (.mk rfl rfl) (.mk rfl rfl) rfl rfl (show _ = ((2 : Nat) : Int) from rfl) (by omega) (fun _ _ => rfl)⟩ ?_
 refine uH 10 rfl (by decide +kernel) (iS (by repeat constructor)) rfl ⟨rfl, g_loadA rfl (.mk rfl rfl) rfl rfl (rdr_vec (cs := (lb (gn 9)).cells) (by repeat constructor) (by omega) r2)⟩ ?_
 refine WH.two 11 12 (by decide +kernel) rfl rfl rfl rfl ?_ ?_
 refine WL1.lit (cs := kvs [lb 0, lb 0, lb (gn 3), lb (gn 5), lb (gn 9)]) elK rfl rfl rfl (.cons (.mk (v := .agg _) rfl rfl) (.cons (.mk (v := .agg _) rfl rfl) (.cons (.mk (v := .agg _) rfl rfl) (.cons (.mk (v := .agg _) rfl rfl) (.cons (.mk (v := .agg _) rfl rfl) .nil))))) rfl (by intro v hv; simp only [List.mem_cons, List.not_mem_nil, or_false] at hv; rcases hv with rfl | rfl | rfl | rfl | rfl <;> rfl) rfl rfl (fun b33 => ?_)
 refine WL.nil ?_
 refine ⟨(iS (by repeat constructor)), ?_⟩
 refine WH.one 12 (by decide +kernel) rfl rfl ?_
 refine WL1.lit (cs := [_, _, _, _, _]) elBo rfl rfl rfl (.cons (.mk (v := .bool _) rfl rfl) (.cons (.mk (v := .bool _) rfl rfl) (.cons (.mk (v := .bool _) rfl rfl) (.cons (.mk (v := .bool _) rfl rfl) (.cons (.mk (v := .bool _) rfl rfl) .nil))))) rfl (by first | (simp [Value.cells]; done) | fail) rfl rfl (fun b34 => ?_)
 refine WL.nil ?_
 refine ⟨(iS (by repeat constructor)), ?_⟩
 refine WH.one 13 (by decide +kernel) rfl rfl ?_
 (refine WL1.callN rfl rfl rfl (.cons (.mk (v := .slice _ _ _) rfl rfl) (.cons (.mk (v := .slice _ _ _) rfl rfl) .nil)) (fun w hw => decode_k (m := 5) (n := 2) rfl (by omega) (by omega) rfl rfl (by decide) ex_dec25 (Sl.of_vec hw (by repeat constructor)) (Sl.of_vec hw (by repeat constructor))) ?_; rintro _ _ ⟨A3, c3, rfl, rfl⟩)
 refine WL.nil ?_
 refine ⟨(iS (by repeat constructor)), ?_⟩
 refine uH 14 rfl (by decide +kernel) (iS (by repeat constructor)) rfl (Gm rfl) ?_
 refine uH 15 rfl (by decide +kernel) (iS (by repeat constructor)) rfl (Gm rfl) ?_
 refine uH 16 rfl (by decide +kernel) (iS (by repeat constructor)) rfl (Gm rfl) ?_
 refine uH 17 rfl (by decide +kernel) (iS (by repeat constructor)) rfl (Gm rfl) ?_
 refine uH 18 rfl (by decide +kernel) (iS (by repeat constructor)) rfl (Gm rfl) ?_
 refine WH.done (by decide +kernel) ?_
 (refine hK _ _ ?_; clear hK)
 refine uS rfl fun K hK => ?_
 (refine WL.want rfl (WL1.callN rfl rfl rfl (.cons (.mk (v := .int _ _) rfl rfl) (.cons (.mk (v := .int _ _) rfl rfl) .nil)) (fun w hw => hch w) ?_); rintro _ _ ⟨A, c, rs, hrl, hly, rfl, rfl⟩)
 iterate 3 refine jm rfl rfl ?_
 refine WL.want rfl (WL1.alloc rfl rfl rfl rfl (fun b5 => ?_))
 refine WL.want rfl (WL1.storeAll rfl rfl (.mk rfl rfl) (.mk rfl rfl) rfl (all1 rfl) (by first | rfl | (simp [Blk.len]; done)) (.head) ?_)
 refine jm rfl rfl ?_
 refine wN hK ?_; clear hK
 refine uS rfl fun K hK => ?_
 refine jm rfl rfl ?_
 refine jt rfl rfl (by omega) ?_
 refine jm rfl rfl ?_
 refine qm rfl rfl ?_
 refine qt rfl rfl (by omega) ?_
 iterate 2 refine jm rfl rfl ?_
 refine qm rfl rfl ?_
 refine qn rfl rfl rfl ?_
 refine qt rfl rfl (by omega) ?_
 iterate 2 refine jm rfl rfl ?_
 refine qm rfl rfl ?_
 refine qW rfl (WL1.give rfl (g_indexAddr (sz := 8) rfl (.mk rfl rfl) (.mk rfl rfl) rfl rfl (show _ = ((1 : Nat) : Int) from rfl) (by omega) (fun w hw => vec_some hw (.tail _ (.tail _ (.tail _ (.head _)))) (by omega))) ?_)
 refine qW rfl (WL1.give rfl (g_loadA rfl (.mk rfl rfl) rfl rfl (rdr_vec (cs := (lb (gn 2)).cells) (by repeat constructor) (by omega) r3)) ?_)
 refine qW rfl (WL1.give rfl (g_buildArr (cs := [_, _, _, _, _, _, _, _]) rfl rfl rfl rfl rfl (.cons (.mk (v := .int _ _) rfl rfl) .nil) rfl rfl rfl) ?_)
 refine qW rfl (WL1.give rfl (g_aeq (by kernel_rfl) rfl (.mk rfl rfl) (.mk rfl rfl) E2) ?_)
 iterate 2 refine jm rfl rfl ?_
 refine qa 1 rfl rfl rfl rfl ?_
 refine ql rfl rfl rfl (rd_pt (.head _) rfl) ?_
 refine qn rfl rfl rfl ?_
 refine qt rfl rfl (by omega) ?_
 iterate 2 refine jm rfl rfl ?_
 refine qW rfl (WL1.give rfl (g_loadA rfl (.mk rfl rfl) rfl rfl (rdr_pt (.head _) (fun j u h => by simpa using h))) ?_)
 refine qW rfl (WL1.give rfl (g_buildS (us := [(0, [_, _]), (1, [_])]) (cs := [iv 5, .slice A rs.length c, iv 1, iv 0]) rfl rfl rfl rfl (.cons (.mk (v := .agg _) rfl rfl) (.cons (.mk (v := .int _ _) rfl rfl) .nil)) rfl (fun p hp => by simp only [List.mem_cons, List.not_mem_nil, or_false] at hp; rcases hp with rfl | rfl <;> exact ⟨_, _, rfl, rfl, Nat.le_of_ble_eq_true rfl⟩) rfl) ?_)
 refine qW rfl (WL1.callP rfl rfl rfl (.cons (.mk (v := .agg _) rfl rfl) .nil) (fun w hw => lslots_e w hly (IMat.of_rows hw (by repeat constructor) (by repeat constructor) rfl)) ?_)
 refine qW rfl (WL1.giveD rfl (g_eq rfl (.mk rfl rfl) (.mk rfl rfl) rfl) (fun _ => ?_) (fun _ => ?_))
 iterate 2 refine jm rfl rfl ?_
 refine wN hK ?_; clear hK
 refine WC.ret ?_
 rotate_left
 iterate 2 refine jm rfl rfl ?_
 refine wN hK ?_; clear hK
 refine WC.ret ?_
 rotate_left
 refine WL1.lit (cs := [_, _, _, _, _]) elBo rfl rfl rfl (.cons (.mk (v := .bool _) rfl rfl) (.cons (.mk (v := .bool _) rfl rfl) (.cons (.mk (v := .bool _) rfl rfl) (.cons (.mk (v := .bool _) rfl rfl) (.cons (.mk (v := .bool _) rfl rfl) .nil))))) rfl (by first | (simp [Value.cells]; done) | fail) rfl rfl (fun b34 => ?_)
 refine WL.nil ?_
 refine ⟨(iS (by repeat constructor)), ?_⟩
 refine WH.one 11 (by decide +kernel) rfl rfl ?_
 refine WL1.lit (cs := kvs [lb 0, lb 0, lb (gn 3), lb (gn 5), lb (gn 9)]) elK rfl rfl rfl (.cons (.mk (v := .agg _) rfl rfl) (.cons (.mk (v := .agg _) rfl rfl) (.cons (.mk (v := .agg _) rfl rfl) (.cons (.mk (v := .agg _) rfl rfl) (.cons (.mk (v := .agg _) rfl rfl) .nil))))) rfl (by intro v hv; simp only [List.mem_cons, List.not_mem_nil, or_false] at hv; rcases hv with rfl | rfl | rfl | rfl | rfl <;> rfl) rfl rfl (fun b33 => ?_)
 refine WL.nil ?_
 refine ⟨(iS (by repeat constructor)), ?_⟩
 refine WH.one 13 (by decide +kernel) rfl rfl ?_
 (refine WL1.callN rfl rfl rfl (.cons (.mk (v := .slice _ _ _) rfl rfl) (.cons (.mk (v := .slice _ _ _) rfl rfl) .nil)) (fun w hw => decode_k (m := 5) (n := 2) rfl (by omega) (by omega) rfl rfl (by decide) ex_dec25 (Sl.of_vec hw (by repeat constructor)) (Sl.of_vec hw (by repeat constructor))) ?_; rintro _ _ ⟨A3, c3, rfl, rfl⟩)
 refine WL.nil ?_
 refine ⟨(iS (by repeat constructor)), ?_⟩
 refine uH 14 rfl (by decide +kernel) (iS (by repeat constructor)) rfl (Gm rfl) ?_
 refine uH 15 rfl (by decide +kernel) (iS (by repeat constructor)) rfl (Gm rfl) ?_
 refine uH 16 rfl (by decide +kernel) (iS (by repeat constructor)) rfl (Gm rfl) ?_
 refine uH 17 rfl (by decide +kernel) (iS (by repeat constructor)) rfl (Gm rfl) ?_
 refine uH 18 rfl (by decide +kernel) (iS (by repeat constructor)) rfl (Gm rfl) ?_
 refine WH.done (by decide +kernel) ?_
 (refine hK _ _ ?_; clear hK)
 refine uS rfl fun K hK => ?_
 (refine WL.want rfl (WL1.callN rfl rfl rfl (.cons (.mk (v := .int _ _) rfl rfl) (.cons (.mk (v := .int _ _) rfl rfl) .nil)) (fun w hw => hch w) ?_); rintro _ _ ⟨A, c, rs, hrl, hly, rfl, rfl⟩)
 iterate 3 refine jm rfl rfl ?_
 refine WL.want rfl (WL1.alloc rfl rfl rfl rfl (fun b5 => ?_))
 refine WL.want rfl (WL1.storeAll rfl rfl (.mk rfl rfl) (.mk rfl rfl) rfl (all1 rfl) (by first | rfl | (simp [Blk.len]; done)) (.head) ?_)
 refine jm rfl rfl ?_
 refine wN hK ?_; clear hK
 refine uS rfl fun K hK => ?_
 refine jm rfl rfl ?_
 refine jt rfl rfl (by omega) ?_
 refine jm rfl rfl ?_
 refine qm rfl rfl ?_
 refine qt rfl rfl (by omega) ?_
 iterate 2 refine jm rfl rfl ?_
 refine qm rfl rfl ?_
 refine qn rfl rfl rfl ?_
 refine qt rfl rfl (by omega) ?_
 iterate 2 refine jm rfl rfl ?_
 refine qm rfl rfl ?_
 refine qW rfl (WL1.give rfl (g_indexAddr (sz := 8) rfl (.mk rfl rfl) (.mk rfl rfl) rfl rfl (show _ = ((1 : Nat) : Int) from rfl) (by omega) (fun w hw => vec_some hw (.tail _ (.tail _ (.tail _ (.head _)))) (by omega))) ?_)
 refine qW rfl (WL1.give rfl (g_loadA rfl (.mk rfl rfl) rfl rfl (rdr_vec (cs := (lb (gn 2)).cells) (by repeat constructor) (by omega) r3)) ?_)
 refine qW rfl (WL1.give rfl (g_buildArr (cs := [_, _, _, _, _, _, _, _]) rfl rfl rfl rfl rfl (.cons (.mk (v := .int _ _) rfl rfl) .nil) rfl rfl rfl) ?_)
 refine qW rfl (WL1.give rfl (g_aeq (by kernel_rfl) rfl (.mk rfl rfl) (.mk rfl rfl) E2) ?_)
 iterate 2 refine jm rfl rfl ?_
 refine qa 1 rfl rfl rfl rfl ?_
 refine ql rfl rfl rfl (rd_pt (.head _) rfl) ?_
 refine qn rfl rfl rfl ?_
 refine qt rfl rfl (by omega) ?_
 iterate 2 refine jm rfl rfl ?_
 refine qW rfl (WL1.give rfl (g_loadA rfl (.mk rfl rfl) rfl rfl (rdr_pt (.head _) (fun j u h => by simpa using h))) ?_)
 refine qW rfl (WL1.give rfl (g_buildS (us := [(0, [_, _]), (1, [_])]) (cs := [iv 5, .slice A rs.length c, iv 1, iv 0]) rfl rfl rfl rfl (.cons (.mk (v := .agg _) rfl rfl) (.cons (.mk (v := .int _ _) rfl rfl) .nil)) rfl (fun p hp => by simp only [List.mem_cons, List.not_mem_nil, or_false] at hp; rcases hp with rfl | rfl <;> exact ⟨_, _, rfl, rfl, Nat.le_of_ble_eq_true rfl⟩) rfl) ?_)
 refine qW rfl (WL1.callP rfl rfl rfl (.cons (.mk (v := .agg _) rfl rfl) .nil) (fun w hw => lslots_e w hly (IMat.of_rows hw (by repeat constructor) (by repeat constructor) rfl)) ?_)
 refine qW rfl (WL1.giveD rfl (g_eq rfl (.mk rfl rfl) (.mk rfl rfl) rfl) (fun _ => ?_) (fun _ => ?_))
 iterate 2 refine jm rfl rfl ?_
 refine wN hK ?_; clear hK
 refine WC.ret ?_
 rotate_left
 iterate 2 refine jm rfl rfl ?_
 refine wN hK ?_; clear hK
 refine WC.ret ?_
 rotate_left
 all_goals first | exact fun w' hw' => ⟨rfl, hw'.1⟩ | (rename_i hne; exact absurd (by rw [hrl]; rfl) hne)
end Go.Proofs.YtdcijljfgcjelaaGreat
namespace Go.Proofs.YtdcijljfgcjelaaGreat
set_option maxRecDepth 20000
open Go.RowKit
def padB (bs : List Bool) (k : Nat) : List Bool := (List.range bs.length).map fun q => nth bs q || decide (bs.length ≤ q + k)
end Go.Proofs.YtdcijljfgcjelaaGreat
namespace Go.Proofs.YtdcijljfgcjelaaGreat
set_option maxRecDepth 20000
open Go.RowKit Go.WideShapes Go.ChangeShapes Go.ChangeAt
section
variable {H : Type} {enc : TypeId × Value → H} {P : Program}
theorem trodAll_below (hl : laidOutB P = true) {W W' : World} (hb : Below W.heap.size W W') :
   ∀ (ts : List TypeId), (ts.all fun t => P.readableRec t && decide (t < P.types.size)) = true → ∀ (vs : List Value) (ds : List (DataW H)) (ps : List MemPlace),
     DataW.TrodAll enc P W 0 (fun _ => true) true ts vs ds ps → (∀ x ∈ ps, x.block < W.heap.size) →
     DataW.TrodAll enc P W' 0 (fun b => decide (b < W.heap.size)) true ts vs ds ps
 | [], _, vs, ds, ps, h, _ => by
   obtain ⟨rfl, rfl, rfl⟩ := trodAll_nil h
   exact trodAll_mk0
 | t :: ts, hr, vs, ds, ps, h, hlt => by
   obtain ⟨v, vs', d, ds', p, q, rfl, rfl, rfl, h1, h2⟩ := trodAll_cons h
   simp only [List.all_cons, Bool.and_eq_true, decide_eq_true_eq] at hr
   refine trodAll_cons_mk (Below.trod hl hr.1.1 hr.1.2 h1 hb fun x hx => hlt x (by simp [hx])) (trodAll_below hl hb ts ?_ _ _ _ h2 fun x hx => hlt x (by simp [hx]))
   simpa using hr.2
theorem trodAll_len {w : World} {base : Nat} {spare : Nat → Bool} {held : Bool} : ∀ (ts : List TypeId) (vs : List Value) (ds : List (DataW H)) (ps : List MemPlace),
   DataW.TrodAll enc P w base spare held ts vs ds ps → ds.length = ts.length ∧ vs.length = ts.length
 | [], vs, ds, ps, h => by obtain ⟨rfl, rfl, rfl⟩ := trodAll_nil h; exact ⟨rfl, rfl⟩
 | t :: ts, vs, ds, ps, h => by
   obtain ⟨v, vs', d, ds', p, q, rfl, rfl, rfl, _, h2⟩ := trodAll_cons h
   have := trodAll_len ts vs' ds' q h2
   exact ⟨by simp [this.1], by simp [this.2]⟩
theorem law_post {fn : Func} {s : ChangeSpec} {W W' : World} {args : Array Value} {ds gs : List (DataW H)} {before : List MemPlace} {tb : TypeId}
   (hl : laidOutB P = true) (hr : (fn.params.toList.all fun t => P.readableRec t && decide (t < P.types.size)) = true)
   (hv : s.vars = []) (hres : fn.resultTypes = #[tb]) (hbool : P.underlying tb = some .bool)
   (hs : ∀ ds : List (DataW H), ds.length = fn.params.toList.length → s.fn H ds = { results := [.lit (.bool true)], args := ds })
   (hW : DataW.Whole enc P fn.params.toList s.vars false W args.toList ds gs before) (hb : Below W.heap.size W W') :
   s.post enc P fn false true false false W args (.bool true) W' := by
 have hW0 := hW
 obtain ⟨p, q, hA, hV, rfl, _, _⟩ := hW
 have hV' := hV
 rw [hv] at hV'
 obtain ⟨rfl, rfl⟩ := trodVars_none hV'
 have hlen := (trodAll_len _ _ _ _ hA).1
 have hsd : s.fn H (ds ++ []) = { results := [.lit (.bool true)], args := ds } := by rw [List.append_nil]; exact hs ds hlen
 refine ⟨ds, [], _, [], p, [], hW0, ?_, ?_, ?_, hb.frame _, fun h => by cases h⟩
 · rw [hsd, hres]
   exact trodAll_cons_mk (shut_bool hbool _) trodAll_mk0
 · rw [hsd]
   exact trodAll_below hl hb _ hr _ _ _ hA fun x hx => hW0.lt x (by simp [hx])
 · rw [hv]
   rw [hsd]
   exact rfl
end
section
variable {H : Type} {enc : TypeId × Value → H} {W : World} {base : Nat}
theorem open_u8i {b0 : Nat} {v : Value} {d : DataW H} {p : List MemPlace} (hv : Value.okWide Tryz.prog W .any b0 5 v) (h : DataW.Trod enc Tryz.prog W 0 (fun _ => true) true 5 v d p) : ∃ n : Int, v = .int .u8 n ∧ 0 ≤ n ∧ n ≤ 255 := by
 obtain ⟨n, rfl, _, _, hw⟩ := open_int Tryz.underlying5 hv h
 exact ⟨n, rfl, bounds_u8 hw⟩
def u8v (x : Int) : Value := .int .u8 x
end
def fltFs (P : Program) (g : TypeId → Option (List (Option IntKind))) : Nat → List Field → Option (List (Option IntKind))
 | _, [] => some []
 | off, f :: fs => if f.offset = off then (g f.type).bind fun l => if P.cellsOf f.type = l.length then (fltFs P g (off + l.length) fs).map fun r => l ++ r else none else none
def fltT (P : Program) : Nat → TypeId → Option (List (Option IntKind))
 | 0, _ => none
 | n + 1, t => match P.underlying t with
   | some (.int k) => some [some k]
   | some .bool => some [none]
   | some (.array m e) => (fltT P n e).bind fun l => if P.cellsOf e = l.length ∧ P.cellsOf t = m * l.length then some (List.replicate m l).flatten else none
   | some (.struct fs) => (fltFs P (fltT P n) 0 fs.toList).bind fun l => if P.cellsOf t = l.length then some l else none
   | _ => none
inductive Lf : List (Option IntKind) → List Value → Prop
 | nil : Lf [] []
 | int {k : IntKind} {z : Int} {ks : List (Option IntKind)} {cs : List Value} : (Lit.int k z).wf = true → Lf ks cs → Lf (some k :: ks) (.int k z :: cs)
 | bool {b : Bool} {ks : List (Option IntKind)} {cs : List Value} : Lf ks cs → Lf (none :: ks) (.bool b :: cs)
def aggB (P : Program) (t : TypeId) : Bool := match P.underlying t with | some (.struct _) => true | some (.array _ _) => true | _ => false
theorem own : ownKnob Tryz.prog.godebug = none := by kernel_rfl
theorem laidOut : laidOutB Tryz.prog = true := by kernel_rfl
abbrev blkK : List (Option IntKind) := List.replicate 8 (some .u8)
end Go.Proofs.YtdcijljfgcjelaaGreat
namespace Go.Proofs.YtdcijljfgcjelaaGreat
set_option maxRecDepth 20000
open Go.RowKit Go.WideShapes Go.ChangeShapes Go.ChangeAt
attribute [local irreducible] Calls
/-! ### The first three marks -/
def bitB (s q : Nat) : Bool := decide (s / 2 ^ q % 2 = 1)
def cnM (s : Nat) : Nat → Nat
 | 0 => 0
 | q + 1 => if bitB s q = true ∧ cnM s q < 3 then cnM s q + 1 else cnM s q
def mkB (s q : Nat) : Bool := decide (bitB s q = true ∧ cnM s q < 3)
def mkP (m s i : Nat) : List Bool := (List.range m).map fun q => decide (q < i) && mkB s q
def mkL (m s : Nat) : List Bool := (List.range m).map (mkB s)
theorem made_bo (n : Nat) : (madeCells (Value.bool false).cells (n * 1)).toList = bls (List.replicate n false) := by
 rw [show (Value.bool false).cells = #[.bool false] from rfl, made_one, bls, List.map_replicate]
end Go.Proofs.YtdcijljfgcjelaaGreat
