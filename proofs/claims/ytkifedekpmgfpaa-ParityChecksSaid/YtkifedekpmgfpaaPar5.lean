/- The reference's parity, walked. No condition. -/
import Derived.Test.YtkifedekpmgfpaaPar4
namespace Go.Proofs.Ytkifedekpmgfpaa
open Go.RowKit
attribute [local irreducible] Calls
/-- The sum of the first i blocks times the powers of c. -/
def rs (c : G) (ds : List Blk) : Nat → Blk
  | 0 => 0
  | i + 1 => rs c ds i + gpow c i * nth ds i
theorem nth_zero {α : Type} [Inhabited α] (a : α) (l : List α) : nth (a :: l) 0 = a := rfl
theorem nth_succ {α : Type} [Inhabited α] (a : α) (l : List α) (k : Nat) : nth (a :: l) (k + 1) = nth l k := by unfold nth; simp [List.getD_eq_getElem?_getD]
theorem rs_cons (c : G) (d : Blk) (ds : List Blk) : ∀ i, rs c (d :: ds) (i + 1) = d + c * rs c ds i
  | 0 => by rw [rs, rs, rs, nth_zero, gpow_zero, Blk.one_mul, Blk.mul_zero, Blk.add_zero, Blk.zero_add]
  | i + 1 => by
    rw [rs, rs_cons c d ds i, rs, nth_succ, Blk.mul_add, ← Blk.mul_mul, gpow_succ, G.mul_comm c, Blk.add_assoc]
theorem rs_hor (c : G) : ∀ ds : List Blk, rs c ds ds.length = hor c ds
  | [] => rfl
  | d :: ds => by rw [List.length_cons, rs_cons, rs_hor c ds]; rfl
theorem flat_put {α : Type} [Inhabited α] {enc : α → List Value} {sz : Nat} : ∀ {l : List α} {k j : Nat} {v : Value} {a' : α}, (∀ a ∈ l, (enc a).length = sz) → k < l.length → j < sz → enc a' = (enc (nth l k)).set j v → (l.flatMap enc).set (k * sz + j) v = (l.set k a').flatMap enc
  | [], k, _, _, _, _, hk, _, _ => absurd hk (by simp)
  | a :: l, 0, j, v, a', he, _, hj, ha => by
    rw [List.flatMap_cons, List.set_cons_zero, List.flatMap_cons, Nat.zero_mul, Nat.zero_add, List.set_append_left _ _ (by rw [he a (by simp)]; exact hj), ha, nth_zero]
  | a :: l, k + 1, j, v, a', he, hk, hj, ha => by
    have hl := he a (by simp)
    rw [List.flatMap_cons, List.set_cons_succ, List.flatMap_cons, List.set_append_right _ _ (by rw [hl, Nat.add_mul]; omega), hl, show (k + 1) * sz + j - sz = k * sz + j from by rw [Nat.add_mul]; omega,
      flat_put (fun b hb => he b (by simp [hb])) (by simpa using hk) hj (by rw [ha, nth_succ])]
theorem blk_put {l : List Blk} {q k i : Nat} {f g : Nat → G} {v : Value} (hq : q < l.length) (hk : k < 8) (hi : i = q * 8 + k) (hv : v = bv (f k)) : (kvs (l.set q (mix k f g))).set i v = kvs (l.set q (mix (k + 1) f g)) := by
  rw [hi, hv]
  have := flat_put (enc := Blk.cells) (sz := 8) (l := l.set q (mix k f g)) (k := q) (j := k) (v := bv (f k)) (a' := mix (k + 1) f g) blk8 (by rw [List.length_set]; exact hq) hk (by rw [nth_set_eq hq, if_pos rfl, mix_step f g hk])
  rw [List.set_set] at this
  exact this
theorem blk_get {l : List Blk} {q k i : Nat} (hq : q < l.length) (hk : k < 8) (hi : i = q * 8 + k) : (kvs l)[i]? = some (bv ((nth l q).at k)) := by
  rw [hi, flat_get blk8 hq hk, Blk.get _ hk]
/-- The reference's parity: rows below j are done, row j as far as i. -/
def parP (j i : Nat) (ds : List Blk) : List Blk := (List.range 3).map fun q => if q < j then hor (gpow 2 q) ds else if q = j then rs (gpow 2 q) ds i else 0
theorem parP_len (j i : Nat) (ds : List Blk) : (parP j i ds).length = 3 := by simp [parP]
theorem parP_nth (j i : Nat) (ds : List Blk) {q : Nat} (h : q < 3) : nth (parP j i ds) q = if q < j then hor (gpow 2 q) ds else if q = j then rs (gpow 2 q) ds i else 0 := nth_range _ h
theorem parP_step {j i : Nat} {ds : List Blk} (h : j < 3) : (parP j i ds).set j (rs (gpow 2 j) ds (i + 1)) = parP j (i + 1) ds :=
  list_ext_nth (by rw [List.length_set, parP_len, parP_len]) fun q hq => by
    have hq3 : q < 3 := by rw [List.length_set, parP_len] at hq; exact hq
    rw [nth_set_eq (by rw [parP_len]; exact h), parP_nth _ _ _ hq3, parP_nth _ _ _ hq3]
    by_cases e : q = j
    · subst e; rw [if_pos rfl, if_neg (by omega), if_pos rfl]
    · rw [if_neg e, if_neg e, if_neg e]
theorem parP_next {j : Nat} {ds : List Blk} : parP j ds.length ds = parP (j + 1) 0 ds := List.map_congr_left fun q _ => by
  by_cases e : q = j
  · subst e; rw [if_neg (by omega), if_pos rfl, if_pos (by omega), rs_hor]
  · by_cases e2 : q < j
    · rw [if_pos e2, if_pos (by omega)]
    · rw [if_neg e2, if_neg e, if_neg (by omega)]
      by_cases e3 : q = j + 1
      · rw [if_pos e3]; rfl
      · rw [if_neg e3]
theorem parP_all (ds : List Blk) : parP 3 0 ds = enc ds := List.map_congr_left fun q hq => if_pos (by simpa using hq)
theorem madeP (ds : List Blk) : (madeCells (Value.agg z8.toArray).cells (3 * 8)).toList = kvs (parP 0 0 ds) := by
  rw [made3 ds]
  refine congrArg kvs (List.map_congr_left fun q _ => ?_)
  rw [if_neg (by omega), if_neg (by omega)]
  by_cases e : q = 0
  · rw [if_pos e]; rfl
  · rw [if_neg e]
theorem gpow_gpow (j i : Nat) : gpow (gpow 2 j) i = gpow 2 (j * i) := (gpow_mul 2 j i).symm
theorem set_self {α : Type} [Inhabited α] {l : List α} {k : Nat} {a : α} (hk : k < l.length) (h : nth l k = a) : l.set k a = l :=
  list_ext_nth (by rw [List.length_set]) fun j _ => by
    rw [nth_set_eq hk]
    by_cases e : j = k
    · rw [if_pos e, e, h]
    · rw [if_neg e]
theorem subV {A : Option Addr} {m c sz : Nat} {e : TypeId} {xs ys : List Value} {L M : List Asrt} (h : xs = ys) (hL : L.Sublist M) : (vec A m c e sz ys :: L).Sublist (vec A m c e sz xs :: M) := by rw [h]; exact .cons_cons _ hL
set_option maxRecDepth 20000 in
set_option maxHeartbeats 1000000 in
theorem parity_n (v : Value) (ds : List Blk) (w : World) (hv : Sl w 8 v ds.length (kvs ds)) (h2 : ds.length ≤ 1000) : Calls Try.prog 16 #[v] w fun e w' => ∃ v' M, e = .returned v' ∧ H w M w' ∧
    ∃ b, v' = .slice (some ⟨b, 0, none⟩) 3 3 ∧ M = [vec (some ⟨b, 0, none⟩) 3 3 37 8 (kvs (enc ds))] := by
  obtain ⟨A, c, rfl, hc, hm, hs⟩ := hv.open_
  refine calls_wc (args := [.slice A ds.length c]) [2] [] Try.func16 rfl Try.ntmps16 rfl rfl rfl rfl (H.refl w) ?_
  (refine WC.seq ?_; intro K hK)
  refine WC.region rfl ?_
  refine WL.want rfl (WL1.give rfl (g_assign rfl (.mk (v := .slice _ _ _) rfl rfl)) ?_)
  refine WL.nil ?_
  (refine hK _ _ ?_; clear hK)
  (refine WC.seq ?_; intro K hK)
  refine WC.region rfl ?_
  refine WL.want rfl (WL1.make elK rfl rfl (.mk rfl rfl) (.mk rfl rfl) (Int.toNat_of_nonneg (by omega)).symm (Int.toNat_of_nonneg (by omega)).symm (by omega) (by unfold maxLen; omega) (fun b8 => ?_))
  refine WL.want rfl (WL1.give rfl (g_assign rfl (.mk (v := .slice _ _ _) rfl rfl)) ?_)
  refine WL.nil ?_
  (refine hK _ _ ?_; clear hK)
  (refine WC.seq ?_; intro K hK)
  (refine WC.seq ?_; intro K hK)
  refine WC.region rfl ?_
  refine WL.want rfl (WL1.give rfl (g_assign rfl (.mk (v := .int _ _) rfl rfl)) ?_)
  refine WL.nil ?_
  (refine hK _ _ ?_; clear hK)
  refine WC.block ?_
  refine WC.loop (17592186044144) (fun j : Nat => [(4, iv j)]) (fun j => [vec (some ⟨b8, 0, none⟩) 3 3 37 8 (kvs (parP j 0 ds))]) (fun j => j ≤ 3) (fun j => 3 - j) 0 ⟨rfl, trivial⟩ (by rw [← madeP ds]; exact .refl _) (by omega) ?_
  intro j U hj
  by_cases hlt : j < 3
  · (refine WC.seq ?_; intro K hK)
    (refine WC.seq ?_; intro K hK)
    refine WC.region rfl ?_
    refine WL.want rfl (WL1.give rfl (g_move rfl (.mk (v := .int _ _) rfl rfl)) ?_)
    refine WL.want rfl (WL1.give rfl (g_lt rfl (.mk rfl rfl) (.mk rfl rfl) (decide_eq_true (by omega))) ?_)
    refine WL.nil ?_
    (refine hK _ _ ?_; clear hK)
    refine WC.cond_true (.mk rfl rfl) ?_
    refine WC.skip ?_
    (refine hK _ _ ?_; clear hK)
    (refine WC.seq ?_; intro K hK)
    refine WC.block ?_
    (refine WC.seq ?_; intro K hK)
    refine WC.region rfl ?_
    refine WL.want rfl (WL1.give rfl (g_assign rfl (.mk (v := .int _ _) rfl rfl)) ?_)
    refine WL.nil ?_
    (refine hK _ _ ?_; clear hK)
    refine WC.block ?_
    refine WC.loop (17592186036448) (fun i : Nat => [(5, iv i)]) (fun i => [vec (some ⟨b8, 0, none⟩) 3 3 37 8 (kvs (parP j i ds))]) (fun i => i ≤ ds.length) (fun i => ds.length - i) 0 ⟨rfl, trivial⟩ (.refl _) (by omega) ?_
    intro i V hi
    by_cases hlt2 : i < ds.length
    · have hji : j * i ≤ 3000 := Nat.le_trans (Nat.mul_le_mul (by omega : j ≤ 3) (by omega : i ≤ 1000)) (by omega)
      have hmul : IntKind.i64.wrap ((j : Int) * (i : Int)) = ((j * i : Nat) : Int) := by rw [← Int.natCast_mul]; exact IntWalk.i64_in _ (by omega)
      have hpw : ∀ w, Calls Try.prog 13 #[bv 2, iv (j * i : Nat)] w fun e w' => e = .returned (bv (gpow 2 (j * i))) ∧ w' = w := fun w => (rpower_any 2 (j * i : Nat) (by omega) w).mono fun _ _ ⟨h1, h2⟩ => ⟨by rw [h1, Int.toNat_natCast], h2.symm⟩
      (refine WC.seq ?_; intro K hK)
      (refine WC.seq ?_; intro K hK)
      refine WC.region rfl ?_
      refine WL.want rfl (WL1.give rfl (g_move rfl (.mk (v := .int _ _) rfl rfl)) ?_)
      refine WL.want rfl (WL1.give rfl (g_move rfl (.mk (v := .slice _ _ _) rfl rfl)) ?_)
      refine WL.want rfl (WL1.give rfl (g_len rfl (.mk rfl rfl) rfl) ?_)
      refine WL.want rfl (WL1.give rfl (g_lt rfl (.mk rfl rfl) (.mk rfl rfl) (decide_eq_true (by omega))) ?_)
      refine WL.nil ?_
      (refine hK _ _ ?_; clear hK)
      refine WC.cond_true (.mk rfl rfl) ?_
      refine WC.skip ?_
      (refine hK _ _ ?_; clear hK)
      (refine WC.seq ?_; intro K hK)
      refine WC.block ?_
      (refine WC.seq ?_; intro K hK)
      refine WC.region rfl ?_
      refine WL.want rfl (WL1.give rfl (g_move rfl (.mk (v := .int _ _) rfl rfl)) ?_)
      refine WL.want rfl (WL1.give rfl (g_move rfl (.mk (v := .int _ _) rfl rfl)) ?_)
      refine WL.want rfl (WL1.give rfl (g_mul rfl (.mk rfl rfl) (.mk rfl rfl) hmul) ?_)
      refine WL.want rfl (WL1.callP rfl rfl rfl (.cons (.mk (v := .int _ _) rfl rfl) (.cons (.mk (v := .int _ _) rfl rfl) .nil)) (fun w hw => Calls.belowS (hpw w)) ?_)
      refine WL.want rfl (WL1.give rfl (g_assign rfl (.mk (v := .int _ _) rfl rfl)) ?_)
      refine WL.nil ?_
      (refine hK _ _ ?_; clear hK)
      (refine WC.seq ?_; intro K hK)
      refine WC.region rfl ?_
      refine WL.want rfl (WL1.give rfl (g_assign rfl (.mk (v := .int _ _) rfl rfl)) ?_)
      refine WL.nil ?_
      (refine hK _ _ ?_; clear hK)
      refine WC.block ?_
      obtain ⟨f, hf⟩ : ∃ f : Nat → G, f = fun q => (rs (gpow 2 j) ds i).at q + gpow 2 (j * i) * (nth ds i).at q := ⟨_, rfl⟩
      obtain ⟨g, hg⟩ : ∃ g : Nat → G, g = fun q => (rs (gpow 2 j) ds i).at q := ⟨_, rfl⟩
      have hpl := parP_len j i ds
      refine WC.loop (17592177655936) (fun k : Nat => [(7, iv k)]) (fun k => [vec (some ⟨b8, 0, none⟩) 3 3 37 8 (kvs ((parP j i ds).set j (mix k f g)))]) (fun k => k ≤ 8) (fun k => 8 - k) 0 ⟨rfl, trivial⟩ (by rw [mix_zero, hg, Blk.of_eta, set_self (by omega) (by rw [parP_nth _ _ _ hlt, if_neg (by omega), if_pos rfl])]; exact .refl _) (by omega) ?_
      intro k W hk
      by_cases hlt3 : k < 8
      · have hgk : (kvs ((parP j i ds).set j (mix k f g)))[j * 8 + k * 1]? = some (bv (g k)) := by
          rw [blk_get (q := j) (k := k) (by rw [List.length_set]; omega) hlt3 (by omega), nth_set_eq (by omega), if_pos rfl, mix_at _ _ hlt3, if_neg (by omega)]
        have hlx : (kvs ((parP j i ds).set j (mix k f g))).length = 3 * 8 := by rw [flat_len blk8, List.length_set, hpl]
        (refine WC.seq ?_; intro K hK)
        (refine WC.seq ?_; intro K hK)
        refine WC.region rfl ?_
        refine WL.want rfl (WL1.give rfl (g_move rfl (.mk (v := .int _ _) rfl rfl)) ?_)
        refine WL.want rfl (WL1.give rfl (g_lt rfl (.mk rfl rfl) (.mk rfl rfl) (decide_eq_true (by omega))) ?_)
        refine WL.nil ?_
        (refine hK _ _ ?_; clear hK)
        refine WC.cond_true (.mk rfl rfl) ?_
        refine WC.skip ?_
        (refine hK _ _ ?_; clear hK)
        (refine WC.seq ?_; intro K hK)
        refine WC.block ?_
        refine WC.split 17 rfl (by kernel_rfl) (by decide +kernel) ?_
        refine WQ.want rfl (WQ1.give rfl (g_move rfl (.mk (v := .slice _ _ _) rfl rfl)) ?_)
        refine WQ.want rfl (WQ1.give rfl (g_move rfl (.mk (v := .int _ _) rfl rfl)) ?_)
        refine WQ.want rfl (WQ1.give rfl (g_move rfl (.mk (v := .int _ _) rfl rfl)) ?_)
        refine WQ.want rfl (WQ1.give rfl (g_indexAddr (sz := 8) rfl (.mk rfl rfl) (.mk rfl rfl) rfl rfl rfl (by omega) (fun _ _ => rfl)) ?_)
        refine WQ.want rfl (WQ1.give rfl (g_indexAddrA (sz := 1) rfl (.mk rfl rfl) (.mk rfl rfl) rfl rfl rfl (by omega) (fun _ _ => rfl)) ?_)
        refine WQ.want rfl (WQ1.give rfl (g_load rfl (.mk rfl rfl) rfl (rd_vec (.head _) hgk)) ?_)
        refine WQ.want rfl (WQ1.give rfl (g_move rfl (.mk (v := .int _ _) rfl rfl)) ?_)
        refine WQ.want rfl (WQ1.give rfl (g_move rfl (.mk (v := .slice _ _ _) rfl rfl)) ?_)
        refine WQ.want rfl (WQ1.give rfl (g_move rfl (.mk (v := .int _ _) rfl rfl)) ?_)
        refine WQ.want rfl (WQ1.give rfl (g_move rfl (.mk (v := .int _ _) rfl rfl)) ?_)
        refine WQ.want rfl (WQ1.give rfl (g_indexAddr (sz := 8) rfl (.mk rfl rfl) (.mk rfl rfl) rfl rfl rfl (by omega) (fun _ _ => sl_some hs (by omega))) ?_)
        refine WQ.want rfl (WQ1.give rfl (g_indexAddrA (sz := 1) rfl (.mk rfl rfl) (.mk rfl rfl) rfl rfl rfl (by omega) (fun _ _ => sl_some hs (by omega))) ?_)
        refine WQ.want rfl (WQ1.give rfl (g_load rfl (.mk rfl rfl) rfl (rd_sl hs (blk_get hlt2 hlt3 (by omega)))) ?_)
        refine WQ.want rfl (WQ1.callP rfl rfl rfl (.cons (.mk (v := .int _ _) rfl rfl) (.cons (.mk (v := .int _ _) rfl rfl) .nil)) (fun w hw => Calls.belowS ((rmul_any _ _ w).mono fun _ _ ⟨h1, h2⟩ => ⟨h1, h2.symm⟩)) ?_)
        refine WQ.want rfl (WQ1.give rfl (g_xor (k := .u8) rfl (.mk rfl rfl) (.mk rfl rfl) (xor_u8 _ _)) ?_)
        refine WQ.want rfl (WQ1.give rfl (g_indexAddr (sz := 8) rfl (.mk rfl rfl) (.mk rfl rfl) rfl rfl rfl (by omega) (fun _ _ => rfl)) ?_)
        refine WQ.want rfl (WQ1.give rfl (g_indexAddrA (sz := 1) rfl (.mk rfl rfl) (.mk rfl rfl) rfl rfl rfl (by omega) (fun _ _ => rfl)) ?_)
        refine WQ.nil ?_
        refine WY.one 17 (by decide +kernel) rfl rfl ?_
        refine WL1.storeV1 rfl rfl (.mk rfl rfl) (.mk rfl rfl) rfl rfl (by first | omega | (simp; done) | (simp; omega)) (.head) ?_
        refine WL.nil ?_
        refine WY.done (by decide +kernel) ?_
        (refine hK _ _ ?_; clear hK)
        refine WC.region rfl ?_
        refine WL.want rfl (WL1.give rfl (g_move rfl (.mk (v := .int _ _) rfl rfl)) ?_)
        refine WL.want rfl (WL1.give rfl (g_add rfl (.mk rfl rfl) (.mk rfl rfl) (IntWalk.i64_in _ (by omega))) ?_)
        refine WL.want rfl (WL1.give rfl (g_assign rfl (.mk (v := .int _ _) rfl rfl)) ?_)
        refine WL.nil ?_
        exact ⟨k + 1, (by repeat (first | with_reducible exact Out.refl _ _ | refine Out.set rfl ?_ | refine Out.put rfl ?_ | refine Out.sets rfl ?_ | refine Out.hav rfl ?_ | exact Out.refl _ _)), ⟨rfl, trivial⟩, subV (blk_put (by omega) hlt3 (by omega) (by rw [hf, hg]; rfl)) (.refl _), by omega, by omega⟩
      · obtain rfl : k = 8 := by omega
        have hfin : (parP j i ds).set j (mix 8 f g) = parP j (i + 1) ds := by
          rw [← parP_step hlt]
          congr 1
          rw [mix_all, hf, rs, gpow_gpow]
          exact Blk.ext_at fun q hq => by rw [Blk.of_at _ hq, Blk.add_at _ _ hq, Blk.mul_at _ _ hq]
        rw [hfin]
        (refine WC.seq ?_; intro K hK)
        (refine WC.seq ?_; intro K hK)
        refine WC.region rfl ?_
        refine WL.want rfl (WL1.give rfl (g_move rfl (.mk (v := .int _ _) rfl rfl)) ?_)
        refine WL.want rfl (WL1.give rfl (g_lt rfl (.mk rfl rfl) (.mk rfl rfl) (decide_eq_false (by omega))) ?_)
        refine WL.nil ?_
        (refine hK _ _ ?_; clear hK)
        refine WC.cond_false (.mk rfl rfl) ?_
        refine WC.exit ?_
        (clear hK; refine hK _ _ ?_; clear hK)
        refine WC.region rfl ?_
        refine WL.want rfl (WL1.give rfl (g_move rfl (.mk (v := .int _ _) rfl rfl)) ?_)
        refine WL.want rfl (WL1.give rfl (g_add rfl (.mk rfl rfl) (.mk rfl rfl) (IntWalk.i64_in _ (by omega))) ?_)
        refine WL.want rfl (WL1.give rfl (g_assign rfl (.mk (v := .int _ _) rfl rfl)) ?_)
        refine WL.nil ?_
        exact ⟨i + 1, (by repeat (first | with_reducible exact Out.refl _ _ | refine Out.set rfl ?_ | refine Out.put rfl ?_ | refine Out.sets rfl ?_ | refine Out.hav rfl ?_ | exact Out.refl _ _)), ⟨rfl, trivial⟩, .refl _, by omega, by omega⟩
    · obtain rfl : i = ds.length := by omega
      (refine WC.seq ?_; intro K hK)
      (refine WC.seq ?_; intro K hK)
      refine WC.region rfl ?_
      refine WL.want rfl (WL1.give rfl (g_move rfl (.mk (v := .int _ _) rfl rfl)) ?_)
      refine WL.want rfl (WL1.give rfl (g_move rfl (.mk (v := .slice _ _ _) rfl rfl)) ?_)
      refine WL.want rfl (WL1.give rfl (g_len rfl (.mk rfl rfl) rfl) ?_)
      refine WL.want rfl (WL1.give rfl (g_lt rfl (.mk rfl rfl) (.mk rfl rfl) (decide_eq_false (by omega))) ?_)
      refine WL.nil ?_
      (refine hK _ _ ?_; clear hK)
      refine WC.cond_false (.mk rfl rfl) ?_
      refine WC.exit ?_
      (clear hK; refine hK _ _ ?_; clear hK)
      refine WC.region rfl ?_
      refine WL.want rfl (WL1.give rfl (g_move rfl (.mk (v := .int _ _) rfl rfl)) ?_)
      refine WL.want rfl (WL1.give rfl (g_add rfl (.mk rfl rfl) (.mk rfl rfl) (IntWalk.i64_in _ (by omega))) ?_)
      refine WL.want rfl (WL1.give rfl (g_assign rfl (.mk (v := .int _ _) rfl rfl)) ?_)
      refine WL.nil ?_
      exact ⟨j + 1, (by repeat (first | with_reducible exact Out.refl _ _ | refine Out.set rfl ?_ | refine Out.put rfl ?_ | refine Out.sets rfl ?_ | refine Out.hav rfl ?_ | exact Out.refl _ _)), ⟨rfl, trivial⟩, by rw [← parP_next]; exact .refl _, by omega, by omega⟩
  · obtain rfl : j = 3 := by omega
    (refine WC.seq ?_; intro K hK)
    (refine WC.seq ?_; intro K hK)
    refine WC.region rfl ?_
    refine WL.want rfl (WL1.give rfl (g_move rfl (.mk (v := .int _ _) rfl rfl)) ?_)
    refine WL.want rfl (WL1.give rfl (g_lt rfl (.mk rfl rfl) (.mk rfl rfl) (decide_eq_false (by omega))) ?_)
    refine WL.nil ?_
    (refine hK _ _ ?_; clear hK)
    refine WC.cond_false (.mk rfl rfl) ?_
    refine WC.exit ?_
    (clear hK; refine hK _ _ ?_; clear hK)
    (refine WC.seq ?_; intro K hK)
    refine WC.region rfl ?_
    refine WL.want rfl (WL1.give rfl (g_move rfl (.mk (v := .slice _ _ _) rfl rfl)) ?_)
    refine WL.want rfl (WL1.give rfl (g_assign rfl (.mk (v := .slice _ _ _) rfl rfl)) ?_)
    refine WL.nil ?_
    (refine hK _ _ ?_; clear hK)
    refine WC.ret ?_
    exact fun w' hw' => ⟨_, _, rfl, hw', b8, rfl, by rw [← parP_all]⟩
end Go.Proofs.Ytkifedekpmgfpaa
