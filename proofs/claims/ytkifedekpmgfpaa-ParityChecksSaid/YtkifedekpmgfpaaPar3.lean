/- parity.Encode, walked: a range over slices.Backward. No condition. -/
import Derived.Test.YtkifedekpmgfpaaPar2
import Derived.Test.YtkifedekpmgfpaaGb
namespace Go.Proofs.Ytkifedekpmgfpaa
open Go.RowKit
attribute [local irreducible] Calls
/-- The sum of the blocks times powers of c, as the program reckons it. -/
def hor (c : G) : List Blk → Blk
  | [] => 0
  | d :: ds => d + c * hor c ds
theorem hor_drop (c : G) (ds : List Blk) {m : Nat} (h : m < ds.length) : hor c (ds.drop m) = nth ds m + c * hor c (ds.drop (m + 1)) := by
  rw [List.drop_eq_getElem_cons h, hor, nth_eq h]
theorem hor_len (c : G) (ds : List Blk) : hor c (ds.drop ds.length) = 0 := by rw [List.drop_length]; rfl
/-- The first j parity blocks, the others empty. -/
def encP (j : Nat) (ds : List Blk) : List Blk := (List.range 3).map fun q => if q < j then hor (gpow 2 q) ds else 0
def enc (ds : List Blk) : List Blk := (List.range 3).map fun q => hor (gpow 2 q) ds
theorem encP_len (j : Nat) (ds : List Blk) : (encP j ds).length = 3 := by simp [encP]
theorem encP_nth (j : Nat) (ds : List Blk) {q : Nat} (h : q < 3) : nth (encP j ds) q = if q < j then hor (gpow 2 q) ds else 0 := nth_range _ h
theorem nth_set_eq {α : Type} [Inhabited α] {l : List α} {k : Nat} {a : α} (hk : k < l.length) (j : Nat) : nth (l.set k a) j = if j = k then a else nth l j := by
  unfold nth
  rw [List.getD_eq_getElem?_getD, List.getD_eq_getElem?_getD, List.getElem?_set]
  by_cases h : j = k
  · subst h; rw [if_pos rfl, if_pos hk, if_pos rfl]; rfl
  · rw [if_neg (fun e => h e.symm), if_neg h]
theorem encP_set {j : Nat} {ds : List Blk} (h : j < 3) : (encP j ds).set j (hor (gpow 2 j) ds) = encP (j + 1) ds :=
  list_ext_nth (by rw [List.length_set, encP_len, encP_len]) fun q hq => by
    have hq3 : q < 3 := by rw [List.length_set, encP_len] at hq; exact hq
    rw [nth_set_eq (by rw [encP_len]; exact h), encP_nth _ _ hq3, encP_nth _ _ hq3]
    by_cases e : q = j
    · subst e; rw [if_pos rfl, if_pos (by omega)]
    · rw [if_neg e]
      by_cases e2 : q < j
      · rw [if_pos e2, if_pos (by omega)]
      · rw [if_neg e2, if_neg (by omega)]
theorem encP_same {j : Nat} {ds : List Blk} (h : j < 3) : (encP j ds).set j 0 = encP j ds :=
  list_ext_nth (by rw [List.length_set]) fun q hq => by
    have hq3 : q < 3 := by rw [List.length_set, encP_len] at hq; exact hq
    rw [nth_set_eq (by rw [encP_len]; exact h)]
    by_cases e : q = j
    · subst e; rw [if_pos rfl, encP_nth _ _ hq3, if_neg (by omega)]
    · rw [if_neg e]
theorem encP_all (ds : List Blk) : encP 3 ds = enc ds := List.map_congr_left fun q hq => if_pos (by simpa using hq)
theorem exp_j (j : Nat) (h : j < 255) (w : World) : Calls Try.prog 23 #[iv j] w fun e w' => e = .returned (bv (gpow 2 j)) ∧ w' = w :=
  (exp_any j (by omega) (by omega) w).mono fun _ _ ⟨h1, h2⟩ => ⟨by rw [h1, show ((j : Int) % 255).toNat = j from by omega], h2.symm⟩
theorem elK : Elem Try.prog 30 37 (.agg z8.toArray) 8 8 := ⟨by kernel_rfl, by kernel_rfl, rfl, by decide⟩
theorem zero8 : (0 : Blk).cells = z8 := rfl
theorem made3 (ds : List Blk) : (madeCells (Value.agg z8.toArray).cells (3 * 8)).toList = kvs (encP 0 ds) := by kernel_rfl
set_option maxRecDepth 20000 in
set_option maxHeartbeats 1000000 in
theorem encode_n (v : Value) (ds : List Blk) (w : World) (hv : Sl w 8 v ds.length (kvs ds)) (h1 : 1 ≤ ds.length) (h2 : ds.length ≤ 13) : Calls Try.prog 14 #[v] w fun e w' => ∃ v' M, e = .returned v' ∧ H w M w' ∧
    ∃ b, v' = .tuple #[.slice (some ⟨b, 0, none⟩) 3 3, iv 0] ∧ M = [vec (some ⟨b, 0, none⟩) 3 3 37 8 (kvs (enc ds))] := by
  obtain ⟨A, c, rfl, hc, hm, hs⟩ := hv.open_
  refine calls_wcM (args := [.slice A ds.length c]) [2, 3] [] Try.func14 rfl Try.ntmps14 rfl rfl rfl rfl (H.refl w) ?_
  refine (show WG _ _ w _ _ _ _ from ?_) w (H.refl w)
  (refine WG.seq ?_; intro K hK)
  refine WC.region rfl ?_
  refine WL.want rfl (WL1.give rfl (g_assign rfl (.mk (v := .slice _ _ _) rfl rfl)) ?_)
  refine WL.want rfl (WL1.give rfl (g_assign rfl (.mk (v := .int _ _) rfl rfl)) ?_)
  refine WL.nil ?_
  (refine hK _ _ ?_; clear hK)
  (refine WG.seq ?_; intro K hK)
  (refine WC.seq ?_; intro K hK)
  refine WC.region rfl ?_
  refine WL.want rfl (WL1.give rfl (g_move rfl (.mk (v := .slice _ _ _) rfl rfl)) ?_)
  refine WL.want rfl (WL1.give rfl (g_len rfl (.mk rfl rfl) rfl) ?_)
  refine WL.want rfl (WL1.give rfl (g_lt rfl (.mk rfl rfl) (.mk rfl rfl) (decide_eq_false (by omega))) ?_)
  refine WL.want rfl (WL1.give rfl (g_move rfl (.mk (v := .bool _) rfl rfl)) ?_)
  refine WL.wantG rfl rfl rfl rfl (WL1.give rfl (g_move rfl (.mk (v := .slice _ _ _) rfl rfl)) ?_)
  refine WL.wantG rfl rfl rfl rfl (WL1.give rfl (g_len rfl (.mk rfl rfl) rfl) ?_)
  refine WL.wantG rfl rfl rfl rfl (WL1.give rfl (g_gt rfl (.mk rfl rfl) (.mk rfl rfl) (decide_eq_false (by omega))) ?_)
  refine WL.want rfl (WL1.give rfl (g_pickF rfl (.mk rfl rfl) (.mk (v := .bool _) rfl rfl)) ?_)
  refine WL.nil ?_
  (refine hK _ _ ?_; clear hK)
  refine WC.cond_false (.mk rfl rfl) ?_
  refine WC.skip ?_
  (refine hK _ _ ?_; clear hK)
  (refine WG.seq ?_; intro K hK)
  refine WC.region rfl ?_
  refine WL.want rfl (WL1.make elK rfl rfl (.mk rfl rfl) (.mk rfl rfl) (Int.toNat_of_nonneg (by omega)).symm (Int.toNat_of_nonneg (by omega)).symm (by omega) (by unfold maxLen; omega) (fun b16 => ?_))
  refine WL.want rfl (WL1.alloc rfl rfl rfl rfl (fun b4 => ?_))
  refine WL.want rfl (WL1.store1 rfl rfl (.mk rfl rfl) (.mk rfl rfl) rfl rfl (Nat.le_of_ble_eq_true rfl) (.head) ?_)
  refine WL.nil ?_
  (refine hK _ _ ?_; clear hK)
  refine WG.seqG ?_
  (refine WG.seq ?_; intro K hK)
  refine WC.region rfl ?_
  refine WL.want rfl (WL1.give rfl (g_load rfl (.mk rfl rfl) rfl (rd_pt (.head _) rfl)) ?_)
  refine WL.want rfl (WL1.give rfl (g_len rfl (.mk rfl rfl) rfl) ?_)
  refine WL.want rfl (WL1.give rfl (g_move rfl (.mk (v := .int _ _) rfl rfl)) ?_)
  refine WL.nil ?_
  (refine hK _ _ ?_; clear hK)
  refine WG.block ?_
  refine WG.loop (274827051168) (fun g : Nat × List Nat => [(19, iv g.1)]) (fun g => pt b4 30 [.slice (some ⟨b16, 0, none⟩) 3 3] :: vec (some ⟨b16, 0, none⟩) 3 3 37 8 (kvs (encP g.1 ds)) :: g.2.map dfr) (fun g => g.2) (fun g => g.1 ≤ 3) (fun g => 3 - g.1) (0, []) ⟨rfl, trivial⟩ (by show List.Sublist [pt b4 30 [.slice (some ⟨b16, 0, none⟩) 3 3], vec (some ⟨b16, 0, none⟩) 3 3 37 8 (kvs (encP 0 ds))] _; rw [← made3 ds]; exact .refl _) rfl (by show 0 ≤ 3; omega) ?_
  rintro ⟨j, Ds⟩ U hj
  have hj3 : j ≤ 3 := hj
  by_cases hlt : j < 3
  · (refine WG.seq ?_; intro K hK)
    refine WC.region rfl ?_
    refine WL.want rfl (WL1.give rfl (g_lt rfl (.mk rfl rfl) (.mk rfl rfl) (decide_eq_true (by omega))) ?_)
    refine WL.nil ?_
    (refine hK _ _ ?_; clear hK)
    (refine WG.seq ?_; intro K hK)
    refine WC.cond_true (.mk rfl rfl) ?_
    refine WC.skip ?_
    (refine hK _ _ ?_; clear hK)
    refine WG.seqG ?_
    refine WG.block ?_
    (refine WG.seq ?_; intro K hK)
    refine WC.region rfl ?_
    refine WL.want rfl (WL1.give rfl (g_move rfl (.mk (v := .int _ _) rfl rfl)) ?_)
    refine WL.want rfl (WL1.alloc rfl rfl rfl rfl (fun b5 => ?_))
    refine WL.want rfl (WL1.store1 rfl rfl (.mk rfl rfl) (.mk rfl rfl) rfl rfl (Nat.le_of_ble_eq_true rfl) (.head) ?_)
    refine WL.nil ?_
    (refine hK _ _ ?_; clear hK)
    (refine WG.seq ?_; intro K hK)
    refine WC.region rfl ?_
    refine WL.want rfl (WL1.give rfl (g_move rfl (.mk (v := .slice _ _ _) rfl rfl)) ?_)
    (refine WL.want rfl (WL1.callN rfl rfl rfl (.cons (.mk (v := .slice _ _ _) rfl rfl) .nil) (fun w hw => back_n A ds.length c w) ?_); rintro _ _ ⟨bs, rfl, rfl⟩)
    refine WL.nil ?_
    (refine hK _ _ ?_; clear hK)
    refine WG.block ?_
    intro w1 hw1
    have hcl : ds.length ≤ c := by have := hs; omega
    refine wpF_range_it (ps := [24, 25]) ds.length (fun m => [pt bs 30 [.slice A ds.length c], pt b5 3 [iv j], pt b4 30 [.slice (some ⟨b16, 0, none⟩) 3 3], vec (some ⟨b16, 0, none⟩) 3 3 37 8 (kvs ((encP j ds).set j (hor (gpow 2 j) (ds.drop m))))] ++ Ds.map dfr) (fun m => [iv m, kv (nth ds m)]) rfl (.mk rfl rfl) rfl hw1 ?_ (fun _ => rfl)
      (fun r D X hy w' hw' => back_it (Ls := fun m => X :: dfr D :: ([pt bs 30 [.slice A ds.length c], pt b5 3 [iv j], pt b4 30 [.slice (some ⟨b16, 0, none⟩) 3 3], vec (some ⟨b16, 0, none⟩) 3 3 37 8 (kvs ((encP j ds).set j (hor (gpow 2 j) (ds.drop m))))] ++ Ds.map dfr)) hm hcl hs (fun i => .tail _ (.tail _ (.head _))) hy hw') ?_ ?_
    · show List.Sublist (_ :: _ :: _ :: _ :: Ds.map dfr) _
      rw [hor_len, encP_same hlt]
      exact .refl _
    · intro rec r D m hlm
      have hen := encP_len j ds
      have hlx : (kvs ((encP j ds).set j (hor (gpow 2 j) (ds.drop (m + 1))))).length = 3 * 8 := by rw [flat_len blk8, List.length_set, encP_len]
      have hse := nth_set_eq (l := encP j ds) (a := hor (gpow 2 j) (ds.drop (m + 1))) (by rw [encP_len]; exact hlt) j
      rw [if_pos rfl] at hse
      refine WC.region rfl ?_
      refine WL.want rfl (WL1.alloc rfl rfl rfl rfl (fun b7 => ?_))
      refine WL.want rfl (WL1.storeAll rfl rfl (.mk rfl rfl) (.mk rfl rfl) (sz8 _) (Blk.one _) (by first | rfl | (simp [Blk.len]; done)) (.head) ?_)
      refine WL.nil ?_
      refine ⟨_, .tail .head, ?_⟩
      refine WC.block ?_
      refine WC.split 11 rfl (by kernel_rfl) (by decide +kernel) ?_
      refine WQ.want rfl (WQ1.give rfl (g_load rfl (.mk rfl rfl) rfl (rd_pt (.tail _ (.tail _ (.tail _ (.tail _ (.tail _ (.head _)))))) rfl)) ?_)
      refine WQ.want rfl (WQ1.give rfl (g_load rfl (.mk rfl rfl) rfl (rd_pt (.tail _ (.tail _ (.tail _ (.tail _ (.head _))))) rfl)) ?_)
      refine WQ.want rfl (WQ1.give rfl (g_loadA rfl (.mk rfl rfl) rfl (sz8 _) (rdr_pt (.head _) (fun j u h => by simpa using h))) ?_)
      refine WQ.want rfl (WQ1.give rfl (g_load rfl (.mk rfl rfl) rfl (rd_pt (.tail _ (.tail _ (.tail _ (.tail _ (.tail _ (.head _)))))) rfl)) ?_)
      refine WQ.want rfl (WQ1.give rfl (g_load rfl (.mk rfl rfl) rfl (rd_pt (.tail _ (.tail _ (.tail _ (.tail _ (.head _))))) rfl)) ?_)
      refine WQ.want rfl (WQ1.give rfl (g_indexAddr (sz := 8) rfl (.mk rfl rfl) (.mk rfl rfl) rfl rfl rfl (by omega) (fun _ _ => rfl)) ?_)
      refine WQ.want rfl (WQ1.give rfl (g_loadA rfl (.mk rfl rfl) rfl (sz8 _) (rdr_vec (.tail _ (.tail _ (.tail _ (.tail _ (.tail _ (.tail _ (.head _))))))) (by omega) (flat_row blk8 (by rw [List.length_set]; omega)))) ?_)
      refine WQ.want rfl (WQ1.give rfl (g_load rfl (.mk rfl rfl) rfl (rd_pt (.tail _ (.tail _ (.tail _ (.tail _ (.head _))))) rfl)) ?_)
      refine WQ.want rfl (WQ1.callP rfl rfl rfl (.cons (.mk (v := .int _ _) rfl rfl) .nil) (fun w hw => Calls.belowS (exp_j j (by omega) w)) ?_)
      refine WQ.want rfl (WQ1.callP rfl rfl rfl (.cons (.mk (v := .agg _) rfl rfl) (.cons (.mk (v := .agg _) rfl rfl) (.cons (.mk (v := .int _ _) rfl rfl) .nil))) (fun w hw => fused_e _ _ _ w) ?_)
      refine WQ.want rfl (WQ1.give rfl (g_indexAddr (sz := 8) rfl (.mk rfl rfl) (.mk rfl rfl) rfl rfl rfl (by omega) (fun _ _ => rfl)) ?_)
      refine WQ.nil ?_
      refine WY.one 11 (by decide +kernel) rfl rfl ?_
      refine WL1.storeVA rfl rfl (.mk rfl rfl) (.mk rfl rfl) rfl (all1 rfl) (by first | decide | omega | exact Nat.le_of_ble_eq_true rfl | (simp; done) | (simp; omega) | (rw [Blk.len]; omega)) (by first | omega | (rw [Blk.len]; omega) | (simp; done) | (simp; omega)) (.tail (.tail (.tail (.tail (.tail (.tail (.head))))))) ?_
      refine WL.nil ?_
      refine WY.done (by decide +kernel) ?_
      refine ⟨_, .tail .head, .cons _ ?_⟩
      have hfs : spl (kvs ((encP j ds).set j (hor (gpow 2 j) (ds.drop (m + 1))))) (j * 8) (nth ds m + gpow 2 j * hor (gpow 2 j) (ds.drop (m + 1))).cells = kvs ((encP j ds).set j (hor (gpow 2 j) (ds.drop m))) := by
        have := flat_set (l := (encP j ds).set j (hor (gpow 2 j) (ds.drop (m + 1)))) (k := j) (v := nth ds m + gpow 2 j * hor (gpow 2 j) (ds.drop (m + 1))) blk8 (Blk.len _) (by rw [List.length_set, encP_len]; exact hlt)
        rw [List.set_set] at this
        rw [hor_drop _ _ hlm]
        exact this
      rw [hse, hfs]
      exact .refl _
    · intro D w3 hw3
      rw [List.drop_zero, encP_set hlt] at hw3
      refine (show WG _ ⟨39, none, marks (D :: Ds)⟩ w _ _ _ _ from ?_) w3 hw3
      refine WG.of ?_
      refine WC.region rfl ?_
      refine WL.want rfl (WL1.give rfl (g_add rfl (.mk rfl rfl) (.mk rfl rfl) (IntWalk.i64_in _ (by omega))) ?_)
      refine WL.want rfl (WL1.give rfl (g_move rfl (.mk (v := .int _ _) rfl rfl)) ?_)
      refine WL.nil ?_
      exact fun w' hw' => ⟨(j + 1, D :: Ds), _, (by repeat (first | with_reducible exact Out.refl _ _ | refine Out.set rfl ?_ | refine Out.put rfl ?_ | refine Out.sets rfl ?_ | refine Out.hav rfl ?_ | exact Out.refl _ _)), ⟨rfl, trivial⟩, rfl, (hw'.sub (.cons_cons _ (.cons _ (.cons _ (.refl _))))).perm ((List.Perm.swap _ _ _).trans ((List.Perm.swap _ _ _).cons _)), by show j + 1 ≤ 3; omega, by show 3 - (j + 1) < 3 - j; omega⟩
  · obtain rfl : j = 3 := by omega
    (refine WG.seq ?_; intro K hK)
    refine WC.region rfl ?_
    refine WL.want rfl (WL1.give rfl (g_lt rfl (.mk rfl rfl) (.mk rfl rfl) (decide_eq_false (by omega))) ?_)
    refine WL.nil ?_
    (refine hK _ _ ?_; clear hK)
    (refine WG.seq ?_; intro K hK)
    refine WC.cond_false (.mk rfl rfl) ?_
    refine WC.exit ?_
    intro w1 hw1
    refine (show WG _ ⟨39, none, marks Ds⟩ w _ _ _ _ from ?_) w1 hw1
    (refine WG.seq ?_; intro K hK)
    refine WC.region rfl ?_
    refine WL.want rfl (WL1.give rfl (g_load rfl (.mk rfl rfl) rfl (rd_pt (.head _) rfl)) ?_)
    refine WL.want rfl (WL1.give rfl (g_assign rfl (.mk (v := .slice _ _ _) rfl rfl)) ?_)
    refine WL.want rfl (WL1.give rfl (g_assign rfl (.mk (v := .int _ _) rfl rfl)) ?_)
    refine WL.nil ?_
    (refine hK _ _ ?_; clear hK)
    refine WG.of ?_
    refine WC.ret ?_
    exact fun w' hw' => ⟨_, Ds, [vec (some ⟨b16, 0, none⟩) 3 3 37 8 (kvs (enc ds))], rfl, (hw'.sub (.cons _ (.refl _))).perm (by rw [← encP_all]; exact (List.perm_append_comm (l₁ := [_]) (l₂ := Ds.map dfr))), fun w'' hw'' => ⟨_, _, rfl, hw'', b16, rfl, rfl⟩⟩
end Go.Proofs.Ytkifedekpmgfpaa
