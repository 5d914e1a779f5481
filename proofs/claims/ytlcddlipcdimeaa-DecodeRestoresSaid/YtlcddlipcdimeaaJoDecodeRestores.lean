/- DecodeRestores answers true, whatever the data and what is lost: a consistent group of which at most three pieces are replaced by anything is restored. No condition. -/
import Derived.Test.YtlcddlipcdimeaaJo6
namespace Go.Proofs.Ytlcddlipcdimeaa.LDecodeRestores
open Go.RowKit Go.WideShapes Go.ChangeShapes Go.ChangeAt
attribute [local irreducible] Calls

theorem mksP_cnt {m : Nat} (l : List G) : ∀ i k, k ≤ m → cnt (mksP m l i) k ≤ i
  | 0, k, hk => by
    have h : ∀ k, k ≤ m → cnt (mksP m l 0) k = 0 := fun k => by
      induction k with
      | zero => intro _; rfl
      | succ k ih =>
        intro hk
        show cnt (mksP m l 0) k + (if nth (mksP m l 0) k then 1 else 0) = 0
        rw [ih (by omega), mksP_nth _ _ (by omega)]; simp
    rw [h k hk]; exact Nat.le_refl _
  | i + 1, k, hk => by
    have ih := mksP_cnt (m := m) l i
    by_cases h240 : (nth l i).val < 240
    · by_cases hm : 0 < m
      · have key : ∀ k, k ≤ m → cnt (mksP m l (i + 1)) k ≤ cnt (mksP m l i) k + 1 ∧ (k ≤ (nth l i).val % m → cnt (mksP m l (i + 1)) k = cnt (mksP m l i) k) := fun k => by
          induction k with
          | zero => intro _; exact ⟨Nat.zero_le _, fun _ => rfl⟩
          | succ k ihk =>
            intro hk
            obtain ⟨h1, h2⟩ := ihk (by omega)
            have e1 : cnt (mksP m l (i + 1)) (k + 1) = cnt (mksP m l (i + 1)) k + if nth (mksP m l (i + 1)) k then 1 else 0 := rfl
            have e2 : cnt (mksP m l i) (k + 1) = cnt (mksP m l i) k + if nth (mksP m l i) k then 1 else 0 := rfl
            rw [← mksP_set hm h240, nth_set_eq (by rw [mksP_len]; exact Nat.mod_lt _ hm)] at e1
            rw [mksP_set hm h240] at e1
            by_cases e : k = (nth l i).val % m
            · rw [if_pos e, if_pos rfl, h2 (by omega)] at e1
              exact ⟨by omega, fun h => by omega⟩
            · rw [if_neg e] at e1
              exact ⟨by omega, fun h => by rw [e1, e2, h2 (by omega)]⟩
        exact Nat.le_trans (key k hk).1 (by have := ih k hk; omega)
      · have : k = 0 := by omega
        subst this; exact Nat.zero_le _
    · rw [← mksP_same h240]; have := ih k hk; omega
/-- The first i pieces are spoilt where they are marked. -/
def spo (ps ks : List Blk) (bs : List Bool) (i : Nat) : List Blk := (List.range ps.length).map fun q => if q < i ∧ nth bs q = true then nth ks (q % 3) else nth ps q
theorem spo_len (ps ks : List Blk) (bs : List Bool) (i : Nat) : (spo ps ks bs i).length = ps.length := by simp [spo]
theorem spo_nth {ps ks : List Blk} {bs : List Bool} {i q : Nat} (h : q < ps.length) : nth (spo ps ks bs i) q = if q < i ∧ nth bs q = true then nth ks (q % 3) else nth ps q := nth_range _ h
theorem spo_zero (ps ks : List Blk) (bs : List Bool) : spo ps ks bs 0 = ps := list_ext_nth (by rw [spo_len]) fun k hk => by
  rw [spo_nth (by rw [spo_len] at hk; exact hk), if_neg (by omega)]
theorem spo_set {ps ks : List Blk} {bs : List Bool} {i : Nat} (hi : i < ps.length) (hb : nth bs i = true) : (spo ps ks bs i).set i (nth ks (i % 3)) = spo ps ks bs (i + 1) :=
  list_ext_nth (by rw [List.length_set, spo_len, spo_len]) fun q hq => by
    have hq3 : q < ps.length := by rw [List.length_set, spo_len] at hq; exact hq
    rw [nth_set_eq (by rw [spo_len]; exact hi), spo_nth hq3, spo_nth hq3]
    by_cases e : q = i
    · subst e; rw [if_pos rfl, if_pos ⟨by omega, hb⟩]
    · rw [if_neg e]
      by_cases e2 : q < i ∧ nth bs q = true
      · rw [if_pos e2, if_pos ⟨by omega, e2.2⟩]
      · rw [if_neg e2, if_neg fun h => e2 ⟨by omega, h.2⟩]
theorem spo_skip {ps ks : List Blk} {bs : List Bool} {i : Nat} (hb : ¬ nth bs i = true) : spo ps ks bs i = spo ps ks bs (i + 1) := List.map_congr_left fun q _ => by
  by_cases e : q < i ∧ nth bs q = true
  · rw [if_pos e, if_pos ⟨by omega, e.2⟩]
  · rw [if_neg e, if_neg fun h => e ⟨by
      have h1 := h.1
      have : q ≠ i := fun h' => hb (h' ▸ h.2)
      omega, h.2⟩]
set_option maxRecDepth 20000 in
set_option maxHeartbeats 4000000 in
theorem walk (w : World) (d : List Blk) (dl : d.length = 13) (g : G) (x : List G) (k : List Blk) (xl : x.length = 3) (kl : k.length = 3) :
    Calls Try.prog 7 #[.agg (kvs d).toArray, bv g, .agg (bvs x ++ kvs k).toArray] w fun en w' => en = .returned (.bool true) ∧ Below w.heap.size w w' := by
  obtain ⟨n, hn⟩ : ∃ n, n = 1 + g.val % 13 := ⟨_, rfl⟩
  have hn1 : 1 ≤ n := by omega
  have hn2 : n ≤ 13 := by omega
  have hgr := fun w' => lgroup_n d g w' dl
  rw [← hn] at hgr
  clear hn
  obtain ⟨ds, hds⟩ : ∃ ds, ds = d.take n := ⟨_, rfl⟩
  have hdl : ds.length = n := by rw [hds, List.length_take]; omega
  rw [← hds] at hgr
  obtain ⟨m, hm⟩ : ∃ m, m = n + 3 := ⟨_, rfl⟩
  rw [← hm] at hgr
  obtain ⟨ps, hps⟩ : ∃ ps, ps = ds ++ enc ds := ⟨_, rfl⟩
  rw [← hps] at hgr
  have hpl : ps.length = m := by rw [hps, List.length_append, enc_len]; omega
  have hmk := fun w' => marks_n m x w' xl (by omega) (by omega)
  obtain ⟨bs, hbs⟩ : ∃ bs, bs = mksP m x 3 := ⟨_, rfl⟩
  rw [← hbs] at hmk
  have hbl : bs.length = m := by rw [hbs, mksP_len]
  have hc3 : cnt bs (n + 3) ≤ 3 := by rw [hbs]; exact mksP_cnt x 3 (n + 3) (by omega)
  have hbx : (bvs x).length = 3 := by unfold bvs; rw [List.length_map, xl]
  have hrx : ∀ j u, (bvs x)[j]? = some u → (bvs x ++ kvs k)[0 + (0 + j)]? = some u := fun j u h => by
    have : j < (bvs x).length := (List.getElem?_eq_some_iff.1 h).1
    rw [Nat.zero_add, Nat.zero_add, List.getElem?_append_left this]; exact h
  have hz : (0 : Nat) + m = m := Nat.zero_add m
  have hsp0 : [] ++ kvs ps = kvs (spo ps k bs 0) := by rw [spo_zero]; rfl
  refine calls_wc (args := [.agg (kvs d).toArray, bv g, .agg (bvs x ++ kvs k).toArray]) [6] [] Try.func7 rfl Try.ntmps7 rfl rfl rfl rfl (H.refl w) ?_
  (refine WC.seq ?_; intro K hK)
  refine WC.region rfl ?_
  refine WL.want rfl (WL1.box rfl rfl (.mk (v := .agg _) rfl rfl) rfl (fun b3 => ?_))
  refine WL.want rfl (WL1.box rfl rfl (.mk (v := .agg _) rfl rfl) rfl (fun b5 => ?_))
  refine WL.want rfl (WL1.give rfl (g_assign rfl (.mk (v := .bool _) rfl rfl)) ?_)
  refine WL.nil ?_
  (refine hK _ _ ?_; clear hK)
  (refine WC.seq ?_; intro K hK)
  (refine WC.seq ?_; intro K hK)
  refine WC.region rfl ?_
  refine WL.want rfl (WL1.callP rfl rfl rfl .nil (fun w hw => awake_e w) ?_)
  refine WL.want rfl (WL1.give rfl (g_notT rfl (.mk rfl rfl)) ?_)
  refine WL.nil ?_
  (refine hK _ _ ?_; clear hK)
  refine WC.cond_false (.mk rfl rfl) ?_
  refine WC.skip ?_
  (refine hK _ _ ?_; clear hK)
  (refine WC.seq ?_; intro K hK)
  refine WC.region rfl ?_
  refine WL.want rfl (WL1.give rfl (g_loadA rfl (.mk rfl rfl) rfl (show szT _ _ = some (kvs d).length from by rw [kvs_len, dl]; rfl) (rdr_pt (cs := kvs d) (by repeat (first | exact .head _ | apply List.Mem.tail)) (fun j u h => by rw [Nat.zero_add, Nat.zero_add]; exact h))) ?_)
  refine WL.want rfl (WL1.give rfl (g_move rfl (.mk (v := .int _ _) rfl rfl)) ?_)
  (refine WL.want rfl (WL1.callN rfl rfl rfl (.cons (.mk (v := .agg _) rfl rfl) (.cons (.mk (v := .int _ _) rfl rfl) .nil)) (fun w hw => hgr w) ?_); rintro _ _ ⟨A1, c1, rfl, rfl⟩)
  refine WL.want rfl (WL1.give rfl (g_assign rfl (.mk (v := .slice _ _ _) rfl rfl)) ?_)
  refine WL.nil ?_
  (refine hK _ _ ?_; clear hK)
  (refine WC.seq ?_; intro K hK)
  refine WC.region rfl ?_
  refine WL.want rfl (WL1.give rfl (g_move rfl (.mk (v := .slice _ _ _) rfl rfl)) ?_)
  refine WL.want rfl (WL1.give rfl (g_len rfl (.mk rfl rfl) rfl) ?_)
  refine WL.want rfl (WL1.give rfl (g_fieldAddr (off := 0) rfl (.mk rfl rfl) rfl (fun _ _ => rfl)) ?_)
  refine WL.want rfl (WL1.give rfl (g_loadA rfl (.mk rfl rfl) rfl (show szT _ _ = some (bvs x).length from by rw [hbx]; rfl) (rdr_pt (cs := bvs x) (by repeat (first | exact .head _ | apply List.Mem.tail)) hrx)) ?_)
  (refine WL.want rfl (WL1.callN rfl rfl rfl (.cons (.mk (v := .int _ _) rfl rfl) (.cons (.mk (v := .agg _) rfl rfl) .nil)) (fun w hw => hmk w) ?_); rintro _ _ ⟨b2, rfl, rfl⟩)
  refine WL.want rfl (WL1.give rfl (g_assign rfl (.mk (v := .slice _ _ _) rfl rfl)) ?_)
  refine WL.nil ?_
  (refine hK _ _ ?_; clear hK)
  (refine WC.seq ?_; intro K hK)
  refine WC.region rfl ?_
  refine WL.want rfl (WL1.lit (cs := []) elK rfl rfl rfl .nil rfl (by first | (simp [Value.cells]; done) | fail) rfl rfl (fun b23 => ?_))
  refine WL.want rfl (WL1.give rfl (g_move rfl (.mk (v := .slice _ _ _) rfl rfl)) ?_)
  refine WL.want rfl (WL1.append elK rfl rfl (.mk rfl rfl) (.mk rfl rfl) (.head) (fun w hw => Sl.of_vec hw (.tail _ (.tail _ (.head _)))) (kvs_one _) (by unfold maxLen; omega) (by omega) (fun A25 c25 => ?_))
  refine WL.want rfl (WL1.give rfl (g_assign rfl (.mk (v := .slice _ _ _) rfl rfl)) ?_)
  refine WL.nil ?_
  (refine hK _ _ ?_; clear hK)
  (refine WC.seq ?_; intro K hK)
  (refine WC.seq ?_; intro K hK)
  refine WC.region rfl ?_
  refine WL.want rfl (WL1.give rfl (g_assign rfl (.mk (v := .int _ _) rfl rfl)) ?_)
  refine WL.nil ?_
  (refine hK _ _ ?_; clear hK)
  refine WC.block ?_
  rw [hsp0, hz]
  refine WC.loopF (fun i : Nat => [(10, iv i), (9, .slice A25 m c25), (8, .slice (some ⟨b2, 0, none⟩) m m), (7, .slice A1 m c1), (5, cellPtr (some ⟨b5, 0, none⟩) 0)]) (fun i => [vec A25 m c25 33 8 (kvs (spo ps k bs i)), vec (some ⟨b2, 0, none⟩) m m 4 1 (bls bs), vec A1 m c1 33 8 (kvs ps), pt b5 51 (bvs x ++ kvs k)]) (fun i => i ≤ m) (fun i => m - i) 0 (by repeat (first | exact trivial | refine ⟨rfl, ?_⟩)) (Imp.pick (by repeat (first | exact .head | apply Take.tail)) (Imp.pick (by repeat (first | exact .head | apply Take.tail)) (Imp.pick (by repeat (first | exact .head | apply Take.tail)) (Imp.pick (by repeat (first | exact .head | apply Take.tail)) (Imp.nil _))))) (by omega) ?_
  intro i U hi
  have hsl := spo_len ps k bs i
  have hkl : (kvs (spo ps k bs i)).length = m * 8 := by rw [kvs_len, hsl, hpl]
  by_cases hlt : i < m
  · have hgv := bls_get (l := bs) (k := i) (by omega)
    cases hbi : nth bs i with
    | false =>
      rw [hbi] at hgv
      (refine WC.seq ?_; intro K hK)
      (refine WC.seq ?_; intro K hK)
      refine WC.region rfl ?_
      refine WL.want rfl (WL1.give rfl (g_move rfl (.mk (v := .int _ _) rfl rfl)) ?_)
      refine WL.want rfl (WL1.give rfl (g_move rfl (.mk (v := .slice _ _ _) rfl rfl)) ?_)
      refine WL.want rfl (WL1.give rfl (g_len rfl (.mk rfl rfl) rfl) ?_)
      refine WL.want rfl (WL1.give rfl (g_lt rfl (.mk rfl rfl) (.mk rfl rfl) (decide_eq_true (by omega))) ?_)
      refine WL.nil ?_
      (refine hK _ _ ?_; clear hK)
      refine WC.cond_true (.mk rfl rfl) ?_
      refine WC.skip ?_
      (refine hK _ _ ?_; clear hK)
      (refine WC.seq ?_; intro K hK)
      refine WC.block ?_
      (refine WC.seq ?_; intro K hK)
      refine WC.region rfl ?_
      refine WL.want rfl (WL1.give rfl (g_move rfl (.mk (v := .slice _ _ _) rfl rfl)) ?_)
      refine WL.want rfl (WL1.give rfl (g_move rfl (.mk (v := .int _ _) rfl rfl)) ?_)
      refine WL.want rfl (WL1.give rfl (g_indexAddr (sz := 1) rfl (.mk rfl rfl) (.mk rfl rfl) rfl rfl rfl (by omega) (fun _ _ => rfl)) ?_)
      refine WL.want rfl (WL1.give rfl (g_load rfl (.mk rfl rfl) rfl (rd_vec (by repeat (first | exact .head _ | apply List.Mem.tail)) hgv)) ?_)
      refine WL.nil ?_
      (refine hK _ _ ?_; clear hK)
      refine WC.cond_false (.mk rfl rfl) ?_
      refine WC.skip ?_
      (refine hK _ _ ?_; clear hK)
      refine WC.region rfl ?_
      refine WL.want rfl (WL1.give rfl (g_move rfl (.mk (v := .int _ _) rfl rfl)) ?_)
      refine WL.want rfl (WL1.give rfl (g_add rfl (.mk rfl rfl) (.mk rfl rfl) (IntWalk.i64_in _ (by omega))) ?_)
      refine WL.want rfl (WL1.give rfl (g_assign rfl (.mk (v := .int _ _) rfl rfl)) ?_)
      refine WL.nil ?_
      exact ⟨i + 1, (by repeat (first | exact trivial | refine ⟨rfl, ?_⟩)), by rw [spo_skip (by rw [hbi]; exact Bool.false_ne_true)]; exact .refl _, by omega, by omega⟩
    | true =>
      rw [hbi] at hgv
      have hrem : (i : Int).tmod 3 = ((i % 3 : Nat) : Int) := by rw [Int.tmod_eq_emod_of_nonneg (by omega)]; omega
      have h3 : i % 3 < 3 := Nat.mod_lt _ (by omega)
      obtain ⟨r, hr⟩ : ∃ r, r = i % 3 := ⟨_, rfl⟩
      rw [← hr] at hrem h3
      have hgk : ∀ (o j : Nat) u, o = 3 + r * 8 → (nth k r).cells[j]? = some u → (bvs x ++ kvs k)[0 + (o + j)]? = some u := fun o j u ho h => by
        rw [ho, List.getElem?_append_right (by omega), hbx, show 0 + (3 + r * 8 + j) - 3 = r * 8 + j from by omega]
        exact flat_row blk8 (by omega) j u h
      have hset : (spo ps k bs i).set i (nth k r) = spo ps k bs (i + 1) := by rw [hr]; exact spo_set (by omega) hbi
      have hsp : ∀ i0 v0, i0 = i * 8 → v0 = (nth k r).cells → spl (kvs (spo ps k bs i)) i0 v0 = kvs (spo ps k bs (i + 1)) := fun i0 v0 h h' => (kvs_spl (by omega) h h').trans (congrArg kvs hset)
      clear hr
      (refine WC.seq ?_; intro K hK)
      (refine WC.seq ?_; intro K hK)
      refine WC.region rfl ?_
      refine WL.want rfl (WL1.give rfl (g_move rfl (.mk (v := .int _ _) rfl rfl)) ?_)
      refine WL.want rfl (WL1.give rfl (g_move rfl (.mk (v := .slice _ _ _) rfl rfl)) ?_)
      refine WL.want rfl (WL1.give rfl (g_len rfl (.mk rfl rfl) rfl) ?_)
      refine WL.want rfl (WL1.give rfl (g_lt rfl (.mk rfl rfl) (.mk rfl rfl) (decide_eq_true (by omega))) ?_)
      refine WL.nil ?_
      (refine hK _ _ ?_; clear hK)
      refine WC.cond_true (.mk rfl rfl) ?_
      refine WC.skip ?_
      (refine hK _ _ ?_; clear hK)
      (refine WC.seq ?_; intro K hK)
      refine WC.block ?_
      (refine WC.seq ?_; intro K hK)
      refine WC.region rfl ?_
      refine WL.want rfl (WL1.give rfl (g_move rfl (.mk (v := .slice _ _ _) rfl rfl)) ?_)
      refine WL.want rfl (WL1.give rfl (g_move rfl (.mk (v := .int _ _) rfl rfl)) ?_)
      refine WL.want rfl (WL1.give rfl (g_indexAddr (sz := 1) rfl (.mk rfl rfl) (.mk rfl rfl) rfl rfl rfl (by omega) (fun _ _ => rfl)) ?_)
      refine WL.want rfl (WL1.give rfl (g_load rfl (.mk rfl rfl) rfl (rd_vec (by repeat (first | exact .head _ | apply List.Mem.tail)) hgv)) ?_)
      refine WL.nil ?_
      (refine hK _ _ ?_; clear hK)
      refine WC.cond_true (.mk rfl rfl) ?_
      refine WC.region rfl ?_
      refine WL.want rfl (WL1.give rfl (g_move rfl (.mk (v := .slice _ _ _) rfl rfl)) ?_)
      refine WL.want rfl (WL1.give rfl (g_move rfl (.mk (v := .int _ _) rfl rfl)) ?_)
      refine WL.want rfl (WL1.give rfl (g_move rfl (.mk (v := .int _ _) rfl rfl)) ?_)
      refine WL.want rfl (WL1.give rfl (g_rem rfl (.mk rfl rfl) (.mk rfl rfl) (by omega) hrem) ?_)
      refine WL.want rfl (WL1.give rfl (g_fieldAddr (off := 3) rfl (.mk rfl rfl) rfl (fun _ _ => rfl)) ?_)
      refine WL.want rfl (WL1.give rfl (g_indexAddrA (sz := 8) rfl (.mk rfl rfl) (.mk rfl rfl) rfl rfl rfl (by omega) (fun _ _ => rfl)) ?_)
      refine WL.want rfl (WL1.give rfl (g_loadA rfl (.mk rfl rfl) rfl (sz8 _) (rdr_pt (cs := (nth k r).cells) (by repeat (first | exact .head _ | apply List.Mem.tail)) (fun j u h => hgk _ j u (by omega) h))) ?_)
      refine WL.want rfl (WL1.give rfl (g_indexAddr (sz := 8) rfl (.mk rfl rfl) (.mk rfl rfl) rfl rfl rfl (by omega) (fun w hw => vec_some hw (.head _) (by omega))) ?_)
      refine WL.want rfl (WL1.storeVA rfl rfl (.mk rfl rfl) (.mk rfl rfl) (sz8 _) (Blk.one _) (by first | decide | omega | exact Nat.le_of_ble_eq_true rfl | (simp; done) | (simp; omega) | (rw [Blk.len]; omega)) (by first | omega | (rw [Blk.len]; omega) | (simp; done) | (simp; omega)) (.head) ?_)
      refine WL.nil ?_
      (refine hK _ _ ?_; clear hK)
      refine WC.region rfl ?_
      refine WL.want rfl (WL1.give rfl (g_move rfl (.mk (v := .int _ _) rfl rfl)) ?_)
      refine WL.want rfl (WL1.give rfl (g_add rfl (.mk rfl rfl) (.mk rfl rfl) (IntWalk.i64_in _ (by omega))) ?_)
      refine WL.want rfl (WL1.give rfl (g_assign rfl (.mk (v := .int _ _) rfl rfl)) ?_)
      refine WL.nil ?_
      refine ⟨i + 1, (by repeat (first | exact trivial | refine ⟨rfl, ?_⟩)), ?_, by omega, by omega⟩
      rw [hsp]
      · exact Imp.pick (by repeat (first | exact .head | apply Take.tail)) (Imp.pick (by repeat (first | exact .head | apply Take.tail)) (Imp.pick (by repeat (first | exact .head | apply Take.tail)) (Imp.pick (by repeat (first | exact .head | apply Take.tail)) (Imp.nil _))))
      · omega
      · rfl
  · obtain rfl : i = m := by omega
    have hdec : decL (spo ps k bs i) bs n = ps := by
      rw [hps]
      refine decL_group hdl hn1 hn2 hc3 fun q hq hb => ?_
      rw [← hps, spo_nth (by omega), if_neg (fun h => by rw [h.2] at hb; cases hb)]
    (refine WC.seq ?_; intro K hK)
    (refine WC.seq ?_; intro K hK)
    refine WC.region rfl ?_
    refine WL.want rfl (WL1.give rfl (g_move rfl (.mk (v := .int _ _) rfl rfl)) ?_)
    refine WL.want rfl (WL1.give rfl (g_move rfl (.mk (v := .slice _ _ _) rfl rfl)) ?_)
    refine WL.want rfl (WL1.give rfl (g_len rfl (.mk rfl rfl) rfl) ?_)
    refine WL.want rfl (WL1.give rfl (g_lt rfl (.mk rfl rfl) (.mk rfl rfl) (decide_eq_false (by omega))) ?_)
    refine WL.nil ?_
    (refine hK _ _ ?_; clear hK)
    refine WC.cond_false (.mk rfl rfl) ?_
    refine WC.exit ?_
    (clear hK; refine hK _ _ ?_; clear hK)
    (refine WC.seq ?_; intro K hK)
    refine WC.region rfl ?_
    refine WL.want rfl (WL1.give rfl (g_move rfl (.mk (v := .slice _ _ _) rfl rfl)) ?_)
    refine WL.want rfl (WL1.give rfl (g_move rfl (.mk (v := .slice _ _ _) rfl rfl)) ?_)
    (refine WL.want rfl (WL1.callN rfl rfl rfl (.cons (.mk (v := .slice _ _ _) rfl rfl) (.cons (.mk (v := .slice _ _ _) rfl rfl) .nil)) (fun w hw => decode_k (ps := spo ps k bs i) (bs := bs) (qs := ps) hm hn1 hn2 (by omega) (by omega) hc3 hdec (Sl.of_vec hw (by repeat (first | exact .head _ | apply List.Mem.tail))) (Sl.of_vec hw (by repeat (first | exact .head _ | apply List.Mem.tail)))) ?_); rintro _ _ ⟨A3, c3, rfl, rfl⟩)
    refine WL.want rfl (WL1.give rfl (g_move rfl (.mk (v := .tuple _) rfl rfl)) ?_)
    refine WL.want rfl (WL1.give rfl (g_extract rfl (.mk rfl rfl) rfl) ?_)
    refine WL.want rfl (WL1.give rfl (g_extract rfl (.mk rfl rfl) rfl) ?_)
    refine WL.want rfl (WL1.give rfl (g_assign rfl (.mk (v := .slice _ _ _) rfl rfl)) ?_)
    refine WL.want rfl (WL1.give rfl (g_assign rfl (.mk (v := .int _ _) rfl rfl)) ?_)
    refine WL.nil ?_
    (refine hK _ _ ?_; clear hK)
    (refine WC.seq ?_; intro K hK)
    refine WC.region rfl ?_
    refine WL.want rfl (WL1.give rfl (g_move rfl (.mk (v := .int _ _) rfl rfl)) ?_)
    refine WL.want rfl (WL1.give rfl (g_eq rfl (.mk rfl rfl) (.mk rfl rfl) (decide_eq_true (by omega))) ?_)
    refine WL.want rfl (WL1.give rfl (g_move rfl (.mk (v := .bool _) rfl rfl)) ?_)
    refine WL.wantG rfl rfl rfl rfl (WL1.give rfl (g_move rfl (.mk (v := .slice _ _ _) rfl rfl)) ?_)
    refine WL.wantG rfl rfl rfl rfl (WL1.give rfl (g_move rfl (.mk (v := .slice _ _ _) rfl rfl)) ?_)
    refine WL.wantG rfl rfl rfl rfl (WL1.callP rfl rfl rfl (.cons (.mk (v := .slice _ _ _) rfl rfl) (.cons (.mk (v := .slice _ _ _) rfl rfl) .nil)) (fun w hw => same_t (Sl.of_vec hw (by repeat (first | exact .head _ | apply List.Mem.tail))) (Sl.of_vec hw (by repeat (first | exact .head _ | apply List.Mem.tail))) hpl hpl rfl) ?_)
    refine WL.want rfl (WL1.give rfl (g_pickT rfl (.mk rfl rfl) (.mk (v := .bool _) rfl rfl)) ?_)
    refine WL.want rfl (WL1.give rfl (g_assign rfl (.mk (v := .bool _) rfl rfl)) ?_)
    refine WL.nil ?_
    (refine hK _ _ ?_; clear hK)
    refine WC.ret ?_
    exact fun w' hw' => ⟨rfl, hw'.1⟩

set_option maxRecDepth 100000 in
theorem lifted (os : Os) (started : os.Started) (H : Type) (enc : TypeId × Value → H) :
    ReturnsInHanded {} Try.checked os 7 .any (Rows.decodeRestoresSpec.pre6 enc Try.prog Try.f7 Rows.decodeRestoresRow.domain false) (Rows.decodeRestoresSpec.post enc Try.prog Try.f7 false true false false) := by
  refine returnsInHanded_of_change (C := Try.checked) own started (by kernel_rfl) Try.func7
    (ChangeSpec.witness6 (enc := enc) (C := Try.checked) false ⟨#[], #[.agg #[.int .u8 0, .int .u8 0, .int .u8 0, .int .u8 0, .int .u8 0, .int .u8 0, .int .u8 0, .int .u8 0, .int .u8 0, .int .u8 0, .int .u8 0, .int .u8 0, .int .u8 0, .int .u8 0, .int .u8 0, .int .u8 0, .int .u8 0, .int .u8 0, .int .u8 0, .int .u8 0, .int .u8 0, .int .u8 0, .int .u8 0, .int .u8 0, .int .u8 0, .int .u8 0, .int .u8 0, .int .u8 0, .int .u8 0, .int .u8 0, .int .u8 0, .int .u8 0, .int .u8 0, .int .u8 0, .int .u8 0, .int .u8 0, .int .u8 0, .int .u8 0, .int .u8 0, .int .u8 0, .int .u8 0, .int .u8 0, .int .u8 0, .int .u8 0, .int .u8 0, .int .u8 0, .int .u8 0, .int .u8 0, .int .u8 0, .int .u8 0, .int .u8 0, .int .u8 0, .int .u8 0, .int .u8 0, .int .u8 0, .int .u8 0, .int .u8 0, .int .u8 0, .int .u8 0, .int .u8 0, .int .u8 0, .int .u8 0, .int .u8 0, .int .u8 0, .int .u8 0, .int .u8 0, .int .u8 0, .int .u8 0, .int .u8 0, .int .u8 0, .int .u8 0, .int .u8 0, .int .u8 0, .int .u8 0, .int .u8 0, .int .u8 0, .int .u8 0, .int .u8 0, .int .u8 0, .int .u8 0, .int .u8 0, .int .u8 0, .int .u8 0, .int .u8 0, .int .u8 0, .int .u8 0, .int .u8 0, .int .u8 0, .int .u8 0, .int .u8 0, .int .u8 0, .int .u8 0, .int .u8 0, .int .u8 0, .int .u8 0, .int .u8 0, .int .u8 0, .int .u8 0, .int .u8 0, .int .u8 0, .int .u8 0, .int .u8 0, .int .u8 0, .int .u8 0], .int .u8 0, .agg #[.int .u8 0, .int .u8 0, .int .u8 0, .int .u8 0, .int .u8 0, .int .u8 0, .int .u8 0, .int .u8 0, .int .u8 0, .int .u8 0, .int .u8 0, .int .u8 0, .int .u8 0, .int .u8 0, .int .u8 0, .int .u8 0, .int .u8 0, .int .u8 0, .int .u8 0, .int .u8 0, .int .u8 0, .int .u8 0, .int .u8 0, .int .u8 0, .int .u8 0, .int .u8 0, .int .u8 0]], []⟩ 8 (by kernel_rfl) (by kernel_rfl) (by kernel_rfl) (by kernel_rfl)) ?_
  intro W base args ds gs before hval0 hW _ _
  have hval : ∀ (j : Nat) t v, Try.f7.params[j]? = some t → args[j]? = some v → Value.okWide Try.prog W .any base t v := hval0
  have hW' := hW
  obtain ⟨p, q, hA0, hV, rfl, hfz, hnd⟩ := hW
  have hA : DataW.TrodAll enc Try.prog W 0 (fun _ => true) true Try.f7.params.toList args.toList ds p := hA0
  rw [Try.params7] at hA hval
  obtain ⟨v0, vs0, d0, ds0, p0, q0, hargs, rfl, rfl, h0, r0⟩ := trodAll_cons hA
  obtain ⟨v1, vs1, d1, ds1, p1, q1, rfl, rfl, rfl, h1, r1⟩ := trodAll_cons r0
  obtain ⟨v2, vs2, d2, ds2, p2, q2, rfl, rfl, rfl, h2, r2⟩ := trodAll_cons r1
  obtain ⟨rfl, rfl, rfl⟩ := trodAll_nil r2
  obtain rfl : args = #[v0, v1, v2] := by cases args; simp_all
  obtain ⟨d, dl, rfl⟩ := open_blk13 (hval 0 38 v0 rfl rfl) h0
  obtain ⟨g, rfl⟩ := open_u8g (hval 1 5 v1 rfl rfl) h1
  obtain ⟨x, xk, xl, xkl, rfl⟩ := open_lost (hval 2 51 v2 rfl rfl) h2
  refine (walk (w := W) d dl g x xk xl xkl).mono fun e W' ⟨he, hb⟩ => ?_
  subst he
  exact ⟨_, rfl, law_post laidOut (by kernel_rfl) rfl rfl Try.underlying4 (fun ds h => by match ds, h with | [_, _, _], _ => rfl) hW' hb⟩

theorem proved : Rows.DecodeRestoresSaid :=
  OpenClaim.holds_of_wide 7 Try.f7 rfl rfl rfl rfl rfl rfl rfl ⟨rfl, rfl, rfl, rfl, rfl⟩ rfl rfl rfl rfl rfl (by kernel_rfl) Try.func7 (by kernel_rfl)
    (of_decide_eq_true (by kernel_rfl)) (by unfold Func.isWrapper; first | (rw [if_pos (by decide +kernel)]; kernel_rfl) | (rw [if_neg (by decide +kernel)]; exact ⟨rfl, rfl⟩))
    (fun os started H enc _ => lifted os started H enc)
end Go.Proofs.Ytlcddlipcdimeaa.LDecodeRestores
