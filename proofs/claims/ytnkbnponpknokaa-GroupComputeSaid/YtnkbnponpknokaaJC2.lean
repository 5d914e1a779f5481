/- Texts joined: Par3, Gq, Par4, Par5, Par6, Eng10, Eng11, Eng12, Eng13, Eng14, Eng15, Bas, Grp1, Grp2, Grp3, Grp4. The parts say what each of them proves. No condition. -/
import Derived.Test.YtnkbnponpknokaaJC1
import Derived.OrdersHeld
import Derived.Laws.CopyRow
namespace Go.Proofs.Ytnkbnponpknokaa
set_option maxRecDepth 20000
open Go.RowKit
attribute [local irreducible] Calls
def hor (c : G) : List Blk → Blk
  | [] => 0
  | d :: ds => d + c * hor c ds
theorem hor_drop (c : G) (ds : List Blk) {m : Nat} (h : m < ds.length) : hor c (ds.drop m) = nth ds m + c * hor c (ds.drop (m + 1)) := by
  rw [List.drop_eq_getElem_cons h, hor, nth_eq h]
theorem hor_len (c : G) (ds : List Blk) : hor c (ds.drop ds.length) = 0 := by rw [List.drop_length]; rfl
def encP (j : Nat) (ds : List Blk) : List Blk := (List.range 3).map fun q => if q < j then hor (gpow 2 q) ds else 0
def enc (ds : List Blk) : List Blk := (List.range 3).map fun q => hor (gpow 2 q) ds
theorem encP_len (j : Nat) (ds : List Blk) : (encP j ds).length = 3 := by simp [encP]
theorem encP_nth (j : Nat) (ds : List Blk) {q : Nat} (h : q < 3) : nth (encP j ds) q = if q < j then hor (gpow 2 q) ds else 0 := nth_range _ h
theorem nth_set_eq {α : Type} [Inhabited α] {l : List α} {k : Nat} {a : α} (hk : k < l.length) (j : Nat) : nth (l.set k a) j = if j = k then a else nth l j := by
  unfold nth
  rw [List.getD_eq_getElem?_getD, List.getD_eq_getElem?_getD, List.getElem?_set]
  by_cases h : j = k
  · subst h; rw [if_pos rfl, if_pos hk, if_pos rfl]; rfl
  · rw [if_neg (fun e => h e.symm), if_neg h]
theorem encP_set {j : Nat} {ds : List Blk} (h : j < 3) : (encP j ds).set j (hor (gpow 2 j) ds) = encP (j + 1) ds :=
  list_ext_nth (by rw [List.length_set, encP_len, encP_len]) fun q hq => by
    have hq3 : q < 3 := by rw [List.length_set, encP_len] at hq; exact hq
    rw [nth_set_eq (by rw [encP_len]; exact h), encP_nth _ _ hq3, encP_nth _ _ hq3]
    by_cases e : q = j
    · subst e; rw [if_pos rfl, if_pos (by omega)]
    · rw [if_neg e]
      by_cases e2 : q < j
      · rw [if_pos e2, if_pos (by omega)]
      · rw [if_neg e2, if_neg (by omega)]
theorem encP_same {j : Nat} {ds : List Blk} (h : j < 3) : (encP j ds).set j 0 = encP j ds :=
  list_ext_nth (by rw [List.length_set]) fun q hq => by
    have hq3 : q < 3 := by rw [List.length_set, encP_len] at hq; exact hq
    rw [nth_set_eq (by rw [encP_len]; exact h)]
    by_cases e : q = j
    · subst e; rw [if_pos rfl, encP_nth _ _ hq3, if_neg (by omega)]
    · rw [if_neg e]
theorem encP_all (ds : List Blk) : encP 3 ds = enc ds := List.map_congr_left fun q hq => if_pos (by simpa using hq)
theorem exp_j (j : Nat) (h : j < 255) (w : World) : Calls Try.prog 69 #[iv j] w fun e w' => e = .returned (bv (gpow 2 j)) ∧ w' = w :=
  (exp_any j (by omega) (by omega) w).mono fun _ _ ⟨h1, h2⟩ => ⟨by rw [h1, show ((j : Int) % 255).toNat = j from by omega], h2.symm⟩
theorem elK : Elem Try.prog 22 38 (.agg z8.toArray) 8 8 := ⟨by kernel_rfl, by kernel_rfl, rfl, by decide⟩
theorem made3 (ds : List Blk) : (madeCells (Value.agg z8.toArray).cells (3 * 8)).toList = kvs (encP 0 ds) := by kernel_rfl
set_option maxHeartbeats 1000000 in
theorem encode_n (v : Value) (ds : List Blk) (w : World) (hv : Sl w 8 v ds.length (kvs ds)) (h1 : 1 ≤ ds.length) (h2 : ds.length ≤ 13) : Calls Try.prog 54 #[v] w fun e w' => ∃ v' M, e = .returned v' ∧ H w M w' ∧
    ∃ b, v' = .tuple #[.slice (some ⟨b, 0, none⟩) 3 3, iv 0] ∧ M = [vec (some ⟨b, 0, none⟩) 3 3 38 8 (kvs (enc ds))] := by
  obtain ⟨A, c, rfl, hc, hm, hs⟩ := hv.open_
  refine calls_wcM (args := [.slice A ds.length c]) [2, 3] [] Try.func54 rfl Try.ntmps54 rfl rfl rfl rfl (H.refl w) ?_
  refine (show WG _ _ w _ _ _ _ from ?_) w (H.refl w)
  (refine WG.seq ?_; intro K hK)
  refine WC.region rfl ?_
  refine wG rfl rfl (g_assign rfl (.mk (v := .slice _ _ _) rfl rfl)) ?_
  refine wG rfl rfl (g_assign rfl (.mk (v := .int _ _) rfl rfl)) ?_
  refine WL.nil ?_
  (refine hK _ _ ?_; clear hK)
  (refine WG.seq ?_; intro K hK)
  refine WC.seq fun K hK => ?_
  refine WC.region rfl ?_
  refine wG rfl rfl (g_move rfl (.mk (v := .slice _ _ _) rfl rfl)) ?_
  refine wG rfl rfl (g_len rfl (.mk rfl rfl) rfl) ?_
  refine wG rfl rfl (g_lt rfl (.mk rfl rfl) (.mk rfl rfl) (decide_eq_false (by omega))) ?_
  refine wG rfl rfl (g_move rfl (.mk (v := .bool _) rfl rfl)) ?_
  refine WL.wantG rfl rfl rfl rfl (WL1.give rfl (g_move rfl (.mk (v := .slice _ _ _) rfl rfl)) ?_)
  refine WL.wantG rfl rfl rfl rfl (WL1.give rfl (g_len rfl (.mk rfl rfl) rfl) ?_)
  refine WL.wantG rfl rfl rfl rfl (WL1.give rfl (g_gt rfl (.mk rfl rfl) (.mk rfl rfl) (decide_eq_false (by omega))) ?_)
  refine wG rfl rfl (g_pickF rfl (.mk rfl rfl) (.mk (v := .bool _) rfl rfl)) ?_
  refine WL.nil ?_
  (refine hK _ _ ?_; clear hK)
  refine WC.cond_false (.mk rfl rfl) ?_
  refine WC.skip ?_
  (refine hK _ _ ?_; clear hK)
  (refine WG.seq ?_; intro K hK)
  refine WC.region rfl ?_
  refine WL.want rfl (WL1.make elK rfl rfl (.mk rfl rfl) (.mk rfl rfl) (Int.toNat_of_nonneg (by omega)).symm (Int.toNat_of_nonneg (by omega)).symm (by omega) (by unfold maxLen; omega) (fun b16 => ?_))
  refine WL.want rfl (WL1.alloc rfl rfl rfl rfl (fun b4 => ?_))
  refine WL.want rfl (WL1.store1 rfl rfl (.mk rfl rfl) (.mk rfl rfl) rfl rfl (Nat.le_of_ble_eq_true rfl) (.head) ?_)
  refine WL.nil ?_
  (refine hK _ _ ?_; clear hK)
  refine WG.seqG ?_
  (refine WG.seq ?_; intro K hK)
  refine WC.region rfl ?_
  refine wG rfl rfl (g_load rfl (.mk rfl rfl) rfl (rd_pt (.head _) rfl)) ?_
  refine wG rfl rfl (g_len rfl (.mk rfl rfl) rfl) ?_
  refine wG rfl rfl (g_move rfl (.mk (v := .int _ _) rfl rfl)) ?_
  refine WL.nil ?_
  (refine hK _ _ ?_; clear hK)
  refine WG.block ?_
  refine WG.loop (274827051168) (fun g : Nat × List Nat => [(19, iv g.1)]) (fun g => pt b4 22 [.slice (some ⟨b16, 0, none⟩) 3 3] :: vec (some ⟨b16, 0, none⟩) 3 3 38 8 (kvs (encP g.1 ds)) :: g.2.map dfr) (fun g => g.2) (fun g => g.1 ≤ 3) (fun g => 3 - g.1) (0, []) ⟨rfl, trivial⟩ (by show List.Sublist [pt b4 22 [.slice (some ⟨b16, 0, none⟩) 3 3], vec (some ⟨b16, 0, none⟩) 3 3 38 8 (kvs (encP 0 ds))] _; rw [← made3 ds]; exact .refl _) rfl (by show 0 ≤ 3; omega) ?_
  rintro ⟨j, Ds⟩ U hj
  have hj3 : j ≤ 3 := hj
  by_cases hlt : j < 3
  · (refine WG.seq ?_; intro K hK)
    refine WC.region rfl ?_
    refine wG rfl rfl (g_lt rfl (.mk rfl rfl) (.mk rfl rfl) (decide_eq_true (by omega))) ?_
    refine WL.nil ?_
    (refine hK _ _ ?_; clear hK)
    (refine WG.seq ?_; intro K hK)
    refine WC.cond_true (.mk rfl rfl) ?_
    refine WC.skip ?_
    (refine hK _ _ ?_; clear hK)
    refine WG.seqG ?_
    refine WG.block ?_
    (refine WG.seq ?_; intro K hK)
    refine WC.region rfl ?_
    refine wG rfl rfl (g_move rfl (.mk (v := .int _ _) rfl rfl)) ?_
    refine WL.want rfl (WL1.alloc rfl rfl rfl rfl (fun b5 => ?_))
    refine WL.want rfl (WL1.store1 rfl rfl (.mk rfl rfl) (.mk rfl rfl) rfl rfl (Nat.le_of_ble_eq_true rfl) (.head) ?_)
    refine WL.nil ?_
    (refine hK _ _ ?_; clear hK)
    (refine WG.seq ?_; intro K hK)
    refine WC.region rfl ?_
    refine wG rfl rfl (g_move rfl (.mk (v := .slice _ _ _) rfl rfl)) ?_
    (refine WL.want rfl (WL1.callN rfl rfl rfl (.cons (.mk (v := .slice _ _ _) rfl rfl) .nil) (fun w hw => back_n A ds.length c w) ?_); rintro _ _ ⟨bs, rfl, rfl⟩)
    refine WL.nil ?_
    (refine hK _ _ ?_; clear hK)
    refine WG.block ?_
    intro w1 hw1
    have hcl : ds.length ≤ c := by have := hs; omega
    refine wpF_range_it (ps := [24, 25]) ds.length (fun m => [pt bs 22 [.slice A ds.length c], pt b5 3 [iv j], pt b4 22 [.slice (some ⟨b16, 0, none⟩) 3 3], vec (some ⟨b16, 0, none⟩) 3 3 38 8 (kvs ((encP j ds).set j (hor (gpow 2 j) (ds.drop m))))] ++ Ds.map dfr) (fun m => [iv m, kv (nth ds m)]) rfl (.mk rfl rfl) rfl hw1 ?_ (fun _ => rfl)
      (fun r D X hy w' hw' => back_it (Ls := fun m => X :: dfr D :: ([pt bs 22 [.slice A ds.length c], pt b5 3 [iv j], pt b4 22 [.slice (some ⟨b16, 0, none⟩) 3 3], vec (some ⟨b16, 0, none⟩) 3 3 38 8 (kvs ((encP j ds).set j (hor (gpow 2 j) (ds.drop m))))] ++ Ds.map dfr)) hm hcl hs (fun i => .tail _ (.tail _ (.head _))) hy hw') ?_ ?_
    · show List.Sublist (_ :: _ :: _ :: _ :: Ds.map dfr) _
      rw [hor_len, encP_same hlt]
      exact .refl _
    · intro rec r D m hlm
      have hen := encP_len j ds
      have hlx : (kvs ((encP j ds).set j (hor (gpow 2 j) (ds.drop (m + 1))))).length = 3 * 8 := by rw [flat_len blk8, List.length_set, encP_len]
      have hse := nth_set_eq (l := encP j ds) (a := hor (gpow 2 j) (ds.drop (m + 1))) (by rw [encP_len]; exact hlt) j
      rw [if_pos rfl] at hse
      refine WC.region rfl ?_
      refine WL.want rfl (WL1.alloc rfl rfl rfl rfl (fun b7 => ?_))
      refine WL.want rfl (WL1.storeAll rfl rfl (.mk rfl rfl) (.mk rfl rfl) (sz8 _) (Blk.one _) (by first | rfl | (simp [Blk.len]; done)) (.head) ?_)
      refine WL.nil ?_
      refine ⟨_, .tail .head, ?_⟩
      refine WC.block ?_
      refine WC.split 11 rfl (by kernel_rfl) (by decide +kernel) ?_
      refine WQ.want rfl (WQ1.give rfl (g_load rfl (.mk rfl rfl) rfl (rd_pt (.tail _ (.tail _ (.tail _ (.tail _ (.tail _ (.head _)))))) rfl)) ?_)
      refine WQ.want rfl (WQ1.give rfl (g_load rfl (.mk rfl rfl) rfl (rd_pt (.tail _ (.tail _ (.tail _ (.tail _ (.head _))))) rfl)) ?_)
      refine WQ.want rfl (WQ1.give rfl (g_loadA rfl (.mk rfl rfl) rfl (sz8 _) (rdr_pt (.head _) (fun j u h => by simpa using h))) ?_)
      refine WQ.want rfl (WQ1.give rfl (g_load rfl (.mk rfl rfl) rfl (rd_pt (.tail _ (.tail _ (.tail _ (.tail _ (.tail _ (.head _)))))) rfl)) ?_)
      refine WQ.want rfl (WQ1.give rfl (g_load rfl (.mk rfl rfl) rfl (rd_pt (.tail _ (.tail _ (.tail _ (.tail _ (.head _))))) rfl)) ?_)
      refine WQ.want rfl (WQ1.give rfl (g_indexAddr (sz := 8) rfl (.mk rfl rfl) (.mk rfl rfl) rfl rfl rfl (by omega) (fun _ _ => rfl)) ?_)
      refine WQ.want rfl (WQ1.give rfl (g_loadA rfl (.mk rfl rfl) rfl (sz8 _) (rdr_vec (.tail _ (.tail _ (.tail _ (.tail _ (.tail _ (.tail _ (.head _))))))) (by omega) (flat_row blk8 (by rw [List.length_set]; omega)))) ?_)
      refine WQ.want rfl (WQ1.give rfl (g_load rfl (.mk rfl rfl) rfl (rd_pt (.tail _ (.tail _ (.tail _ (.tail _ (.head _))))) rfl)) ?_)
      refine WQ.want rfl (WQ1.callP rfl rfl rfl (.cons (.mk (v := .int _ _) rfl rfl) .nil) (fun w hw => Calls.belowS (exp_j j (by omega) w)) ?_)
      refine WQ.want rfl (WQ1.callP rfl rfl rfl (.cons (.mk (v := .agg _) rfl rfl) (.cons (.mk (v := .agg _) rfl rfl) (.cons (.mk (v := .int _ _) rfl rfl) .nil))) (fun w hw => fused_e _ _ _ w) ?_)
      refine WQ.want rfl (WQ1.give rfl (g_indexAddr (sz := 8) rfl (.mk rfl rfl) (.mk rfl rfl) rfl rfl rfl (by omega) (fun _ _ => rfl)) ?_)
      refine WQ.nil ?_
      refine WY.one 11 (by decide +kernel) rfl rfl ?_
      refine WL1.storeVA rfl rfl (.mk rfl rfl) (.mk rfl rfl) rfl (all1 rfl) (by first | decide | omega | exact Nat.le_of_ble_eq_true rfl | (simp; done) | (simp; omega) | (rw [Blk.len]; omega)) (by first | omega | (rw [Blk.len]; omega) | (simp; done) | (simp; omega)) (.tail (.tail (.tail (.tail (.tail (.tail (.head))))))) ?_
      refine WL.nil ?_
      refine WY.done (by decide +kernel) ?_
      refine ⟨_, .tail .head, .cons _ ?_⟩
      have hfs : spl (kvs ((encP j ds).set j (hor (gpow 2 j) (ds.drop (m + 1))))) (j * 8) (nth ds m + gpow 2 j * hor (gpow 2 j) (ds.drop (m + 1))).cells = kvs ((encP j ds).set j (hor (gpow 2 j) (ds.drop m))) := by
        have := flat_set (l := (encP j ds).set j (hor (gpow 2 j) (ds.drop (m + 1)))) (k := j) (v := nth ds m + gpow 2 j * hor (gpow 2 j) (ds.drop (m + 1))) blk8 (Blk.len _) (by rw [List.length_set, encP_len]; exact hlt)
        rw [List.set_set] at this
        rw [hor_drop _ _ hlm]
        exact this
      rw [hse, hfs]
      exact .refl _
    · intro D w3 hw3
      rw [List.drop_zero, encP_set hlt] at hw3
      refine (show WG _ ⟨39, none, marks (D :: Ds)⟩ w _ _ _ _ from ?_) w3 hw3
      refine WG.of ?_
      refine WC.region rfl ?_
      refine wG rfl rfl (g_add rfl (.mk rfl rfl) (.mk rfl rfl) (IntWalk.i64_in _ (by omega))) ?_
      refine wG rfl rfl (g_move rfl (.mk (v := .int _ _) rfl rfl)) ?_
      refine WL.nil ?_
      exact fun w' hw' => ⟨(j + 1, D :: Ds), _, (by repeat (first | with_reducible exact Out.refl _ _ | refine Out.set rfl ?_ | refine Out.put rfl ?_ | refine Out.sets rfl ?_ | refine Out.hav rfl ?_ | exact Out.refl _ _)), ⟨rfl, trivial⟩, rfl, (hw'.sub (.cons_cons _ (.cons _ (.cons _ (.refl _))))).perm ((List.Perm.swap _ _ _).trans ((List.Perm.swap _ _ _).cons _)), by show j + 1 ≤ 3; omega, by show 3 - (j + 1) < 3 - j; omega⟩
  · obtain rfl : j = 3 := by omega
    (refine WG.seq ?_; intro K hK)
    refine WC.region rfl ?_
    refine wG rfl rfl (g_lt rfl (.mk rfl rfl) (.mk rfl rfl) (decide_eq_false (by omega))) ?_
    refine WL.nil ?_
    (refine hK _ _ ?_; clear hK)
    (refine WG.seq ?_; intro K hK)
    refine WC.cond_false (.mk rfl rfl) ?_
    refine WC.exit ?_
    intro w1 hw1
    refine (show WG _ ⟨39, none, marks Ds⟩ w _ _ _ _ from ?_) w1 hw1
    (refine WG.seq ?_; intro K hK)
    refine WC.region rfl ?_
    refine wG rfl rfl (g_load rfl (.mk rfl rfl) rfl (rd_pt (.head _) rfl)) ?_
    refine wG rfl rfl (g_assign rfl (.mk (v := .slice _ _ _) rfl rfl)) ?_
    refine wG rfl rfl (g_assign rfl (.mk (v := .int _ _) rfl rfl)) ?_
    refine WL.nil ?_
    (refine hK _ _ ?_; clear hK)
    refine WG.of ?_
    refine WC.ret ?_
    exact fun w' hw' => ⟨_, Ds, [vec (some ⟨b16, 0, none⟩) 3 3 38 8 (kvs (enc ds))], rfl, (hw'.sub (.cons _ (.refl _))).perm (by rw [← encP_all]; exact (List.perm_append_comm (l₁ := [_]) (l₂ := Ds.map dfr))), fun w'' hw'' => ⟨_, _, rfl, hw'', b16, rfl, rfl⟩⟩
end Go.Proofs.Ytnkbnponpknokaa
namespace Go.Proofs.Ytnkbnponpknokaa
set_option maxRecDepth 20000
open Go.RowKit
set_option maxHeartbeats 400000 in
theorem rpower_any (a : G) (n : Int) (h1 : n ≤ 9223372036854775807) (w : World) :
    Calls Try.prog 74 #[bv a, iv n] w fun e w' => e = .returned (bv (gpow a n.toNat)) ∧ w = w' := by
  go_enter Try.func74, Try.ntmps74
  go_wp2
  go_loop [5, 6] (fun o1 k1 => ∃ k : Nat, (k = 0 ∨ (k : Int) ≤ n) ∧ o1 = bv (gpow a k) ∧ k1 = iv k) (fun _ k1 => (n - intOf k1).toNat)
  case atStart => exact ⟨0, .inl rfl, rfl, rfl⟩
  case round =>
    obtain ⟨k, hk, rfl, rfl⟩ := hrel
    by_cases hlt : (k : Int) < n
    · go_wp2_with (go_at_call 77; refine (rmul_any _ _ _).mono ?_; rintro e w' ⟨rfl, rfl⟩)
      go_round
      case rel => exact ⟨k + 1, .inr (by omega), rfl, by go_num⟩
      case measure => simp [intOf]; omega
    · have hn : Hid (n.toNat = k) := show _ = _ by omega
      go_wp2_with (fail)
      go_ret
      exact ⟨by rw [hn.out]; rfl, rfl⟩
end Go.Proofs.Ytnkbnponpknokaa
namespace Go.Proofs.Ytnkbnponpknokaa
set_option maxRecDepth 20000
open Go.RowKit
attribute [local irreducible] Calls
theorem eqv_blk (a b : Blk) : EqV Try.prog 38 (kv a) (kv b) (decide (a = b)) := by
  refine EqV.arr (m := 8) (e := 5) (k0 := .u8) (by kernel_rfl) rfl (by kernel_rfl) (by kernel_rfl) (fun j hj => ⟨_, _, by rw [List.getElem?_toArray]; exact a.get hj, by rw [List.getElem?_toArray]; exact b.get hj, rfl⟩) ?_
  have key : ∀ j, j < 8 → (ceq (a.cells.toArray.getD j undef) (b.cells.toArray.getD j undef) = true ↔ a.at j = b.at j) := fun j hj => by
    have h1 : a.cells.toArray.getD j undef = bv (a.at j) := by simp [Array.getD_eq_getD_getElem?, a.get hj]
    have h2 : b.cells.toArray.getD j undef = bv (b.at j) := by simp [Array.getD_eq_getD_getElem?, b.get hj]
    rw [h1, h2]
    simp only [ceq, beq_iff_eq]
    exact ⟨fun h => G.eq_of (by omega), fun h => by rw [h]⟩
  by_cases h : a = b
  · rw [decide_eq_true h, List.all_eq_true]
    intro j hj
    have hj8 : j < 8 := by simpa using hj
    exact (key j hj8).2 (by rw [h])
  · rw [decide_eq_false h, ← Bool.not_eq_true, List.all_eq_true]
    exact fun h2 => h (Blk.ext_at fun j hj => (key j hj).1 (h2 j (by simpa using hj)))
theorem blk_eq {a b : Blk} (h : a = b) : EqV Try.prog 38 (kv a) (kv b) true := by have := eqv_blk a b; rwa [decide_eq_true h] at this
theorem blk_ne {a b : Blk} (h : a ≠ b) : EqV Try.prog 38 (kv a) (kv b) false := by have := eqv_blk a b; rwa [decide_eq_false h] at this
def Agr {α : Type} [Inhabited α] (l m : List α) (k : Nat) : Prop := ∀ j, j < k → nth l j = nth m j
theorem Agr.zero {α : Type} [Inhabited α] (l m : List α) : Agr l m 0 := fun _ h => absurd h (by omega)
theorem Agr.succ {α : Type} [Inhabited α] {l m : List α} {k : Nat} (h : Agr l m k) (e : nth l k = nth m k) : Agr l m (k + 1) := fun j hj => by
  by_cases hk : j = k
  · rw [hk, e]
  · exact h j (by omega)
theorem Agr.all {α : Type} [Inhabited α] {l m : List α} (hl : l.length = m.length) (h : Agr l m l.length) : l = m := list_ext_nth hl h
set_option maxHeartbeats 1000000 in
theorem same_e (v1 v2 : Value) (a b : List Blk) (w : World) (h1 : Sl w 8 v1 a.length (kvs a)) (h2 : Sl w 8 v2 b.length (kvs b)) :
    Calls Try.prog 42 #[v1, v2] w fun e w' => e = .returned (.bool (decide (a = b))) ∧ Below w.heap.size w w' := by
  obtain ⟨A, c, rfl, hc, hm, hs⟩ := h1.open_
  obtain ⟨A2, c2, rfl, hc2, hm2, hs2⟩ := h2.open_
  unfold maxLen at hm
  by_cases hl : a.length = b.length
  · refine calls_wc (args := [.slice A a.length c, .slice A2 b.length c2]) [4] [] Try.func42 rfl Try.ntmps42 rfl rfl rfl rfl (H.refl w) ?_
    refine WC.seq fun K hK => ?_
    refine WC.region rfl ?_
    refine wG rfl rfl (g_assign rfl (.mk (v := .bool _) rfl rfl)) ?_
    refine WL.nil ?_
    (refine hK _ _ ?_; clear hK)
    refine WC.seq fun K hK => ?_
    refine WC.seq fun K hK => ?_
    refine WC.region rfl ?_
    refine wG rfl rfl (g_move rfl (.mk (v := .slice _ _ _) rfl rfl)) ?_
    refine wG rfl rfl (g_len rfl (.mk rfl rfl) rfl) ?_
    refine wG rfl rfl (g_move rfl (.mk (v := .slice _ _ _) rfl rfl)) ?_
    refine wG rfl rfl (g_len rfl (.mk rfl rfl) rfl) ?_
    refine wG rfl rfl (g_ne rfl (.mk rfl rfl) (.mk rfl rfl) (decide_eq_false (by omega))) ?_
    refine WL.nil ?_
    (refine hK _ _ ?_; clear hK)
    refine WC.cond_false (.mk rfl rfl) ?_
    refine WC.skip ?_
    (refine hK _ _ ?_; clear hK)
    refine WC.seq fun K hK => ?_
    refine WC.seq fun K hK => ?_
    refine WC.region rfl ?_
    refine wG rfl rfl (g_assign rfl (.mk (v := .int _ _) rfl rfl)) ?_
    refine WL.nil ?_
    (refine hK _ _ ?_; clear hK)
    refine WC.block ?_
    refine WC.loop (67106864) (fun k : Nat => [(5, iv k)]) (fun _ => []) (fun k => k ≤ a.length ∧ Agr a b k) (fun k => a.length - k) 0 ⟨rfl, trivial⟩ (List.nil_sublist _) ⟨by omega, .zero _ _⟩ ?_
    rintro k U ⟨hk, hA⟩
    by_cases hlt : k < a.length
    · by_cases he : nth a k = nth b k
      · have E := blk_eq he
        refine WC.seq fun K hK => ?_
        refine WC.seq fun K hK => ?_
        refine WC.region rfl ?_
        refine wG rfl rfl (g_move rfl (.mk (v := .int _ _) rfl rfl)) ?_
        refine wG rfl rfl (g_move rfl (.mk (v := .slice _ _ _) rfl rfl)) ?_
        refine wG rfl rfl (g_len rfl (.mk rfl rfl) rfl) ?_
        refine wG rfl rfl (g_lt rfl (.mk rfl rfl) (.mk rfl rfl) (decide_eq_true (by omega))) ?_
        refine WL.nil ?_
        (refine hK _ _ ?_; clear hK)
        refine WC.cond_true (.mk rfl rfl) ?_
        refine WC.skip ?_
        (refine hK _ _ ?_; clear hK)
        refine WC.seq fun K hK => ?_
        refine WC.block ?_
        refine WC.seq fun K hK => ?_
        refine WC.quiet rfl (by kernel_rfl) (by decide +kernel) ?_
        refine WQ.want rfl (WQ1.give rfl (g_move rfl (.mk (v := .slice _ _ _) rfl rfl)) ?_)
        refine WQ.want rfl (WQ1.give rfl (g_move rfl (.mk (v := .int _ _) rfl rfl)) ?_)
        refine WQ.want rfl (WQ1.give rfl (g_indexAddr (sz := 8) rfl (.mk rfl rfl) (.mk rfl rfl) rfl rfl rfl (by omega) (fun _ _ => sl_some hs (by omega))) ?_)
        refine WQ.want rfl (WQ1.give rfl (g_loadA rfl (.mk rfl rfl) rfl (sz8 _) (rdr_sl hs (by omega) (flat_row (by first | assumption | exact fun _ _ => rfl | exact blk8) (by omega)))) ?_)
        refine WQ.want rfl (WQ1.give rfl (g_move rfl (.mk (v := .slice _ _ _) rfl rfl)) ?_)
        refine WQ.want rfl (WQ1.give rfl (g_move rfl (.mk (v := .int _ _) rfl rfl)) ?_)
        refine WQ.want rfl (WQ1.give rfl (g_indexAddr (sz := 8) rfl (.mk rfl rfl) (.mk rfl rfl) rfl rfl rfl (by omega) (fun _ _ => sl_some hs2 (by omega))) ?_)
        refine WQ.want rfl (WQ1.give rfl (g_loadA rfl (.mk rfl rfl) rfl (sz8 _) (rdr_sl hs2 (by omega) (flat_row (by first | assumption | exact fun _ _ => rfl | exact blk8) (by omega)))) ?_)
        refine WQ.want rfl (WQ1.give rfl (g_ane (by kernel_rfl) rfl (.mk rfl rfl) (.mk rfl rfl) E) ?_)
        refine WQ.nil ?_
        (refine hK _ _ ?_; clear hK)
        refine WC.cond_false (.mk rfl rfl) ?_
        refine WC.skip ?_
        (refine hK _ _ ?_; clear hK)
        refine WC.region rfl ?_
        refine wG rfl rfl (g_move rfl (.mk (v := .int _ _) rfl rfl)) ?_
        refine wG rfl rfl (g_add rfl (.mk rfl rfl) (.mk rfl rfl) (IntWalk.i64_in _ (by omega))) ?_
        refine wG rfl rfl (g_assign rfl (.mk (v := .int _ _) rfl rfl)) ?_
        refine WL.nil ?_
        exact ⟨k + 1, (by repeat (first | with_reducible exact Out.refl _ _ | refine Out.set rfl ?_ | refine Out.put rfl ?_ | refine Out.sets rfl ?_ | refine Out.hav rfl ?_ | exact Out.refl _ _)), ⟨rfl, trivial⟩, .refl _, ⟨by omega, hA.succ he⟩, by omega⟩
      · have E := blk_ne he
        refine WC.seq fun K hK => ?_
        refine WC.seq fun K hK => ?_
        refine WC.region rfl ?_
        refine wG rfl rfl (g_move rfl (.mk (v := .int _ _) rfl rfl)) ?_
        refine wG rfl rfl (g_move rfl (.mk (v := .slice _ _ _) rfl rfl)) ?_
        refine wG rfl rfl (g_len rfl (.mk rfl rfl) rfl) ?_
        refine wG rfl rfl (g_lt rfl (.mk rfl rfl) (.mk rfl rfl) (decide_eq_true (by omega))) ?_
        refine WL.nil ?_
        (refine hK _ _ ?_; clear hK)
        refine WC.cond_true (.mk rfl rfl) ?_
        refine WC.skip ?_
        (refine hK _ _ ?_; clear hK)
        refine WC.seq fun K hK => ?_
        refine WC.block ?_
        refine WC.seq fun K hK => ?_
        refine WC.quiet rfl (by kernel_rfl) (by decide +kernel) ?_
        refine WQ.want rfl (WQ1.give rfl (g_move rfl (.mk (v := .slice _ _ _) rfl rfl)) ?_)
        refine WQ.want rfl (WQ1.give rfl (g_move rfl (.mk (v := .int _ _) rfl rfl)) ?_)
        refine WQ.want rfl (WQ1.give rfl (g_indexAddr (sz := 8) rfl (.mk rfl rfl) (.mk rfl rfl) rfl rfl rfl (by omega) (fun _ _ => sl_some hs (by omega))) ?_)
        refine WQ.want rfl (WQ1.give rfl (g_loadA rfl (.mk rfl rfl) rfl (sz8 _) (rdr_sl hs (by omega) (flat_row (by first | assumption | exact fun _ _ => rfl | exact blk8) (by omega)))) ?_)
        refine WQ.want rfl (WQ1.give rfl (g_move rfl (.mk (v := .slice _ _ _) rfl rfl)) ?_)
        refine WQ.want rfl (WQ1.give rfl (g_move rfl (.mk (v := .int _ _) rfl rfl)) ?_)
        refine WQ.want rfl (WQ1.give rfl (g_indexAddr (sz := 8) rfl (.mk rfl rfl) (.mk rfl rfl) rfl rfl rfl (by omega) (fun _ _ => sl_some hs2 (by omega))) ?_)
        refine WQ.want rfl (WQ1.give rfl (g_loadA rfl (.mk rfl rfl) rfl (sz8 _) (rdr_sl hs2 (by omega) (flat_row (by first | assumption | exact fun _ _ => rfl | exact blk8) (by omega)))) ?_)
        refine WQ.want rfl (WQ1.give rfl (g_ane (by kernel_rfl) rfl (.mk rfl rfl) (.mk rfl rfl) E) ?_)
        refine WQ.nil ?_
        (refine hK _ _ ?_; clear hK)
        refine WC.cond_true (.mk rfl rfl) ?_
        refine WC.seq fun K hK => ?_
        refine WC.region rfl ?_
        refine wG rfl rfl (g_assign rfl (.mk (v := .bool _) rfl rfl)) ?_
        refine WL.nil ?_
        (refine hK _ _ ?_; clear hK)
        refine WC.ret ?_
        exact fun w' hw' => ⟨by rw [decide_eq_false (fun h => he (by rw [h]))]; rfl, hw'.1⟩
    · obtain rfl : k = a.length := by omega
      refine WC.seq fun K hK => ?_
      refine WC.seq fun K hK => ?_
      refine WC.region rfl ?_
      refine wG rfl rfl (g_move rfl (.mk (v := .int _ _) rfl rfl)) ?_
      refine wG rfl rfl (g_move rfl (.mk (v := .slice _ _ _) rfl rfl)) ?_
      refine wG rfl rfl (g_len rfl (.mk rfl rfl) rfl) ?_
      refine wG rfl rfl (g_lt rfl (.mk rfl rfl) (.mk rfl rfl) (decide_eq_false (by omega))) ?_
      refine WL.nil ?_
      (refine hK _ _ ?_; clear hK)
      refine WC.cond_false (.mk rfl rfl) ?_
      refine WC.exit ?_
      (clear hK; refine hK _ _ ?_; clear hK)
      refine WC.seq fun K hK => ?_
      refine WC.region rfl ?_
      refine wG rfl rfl (g_assign rfl (.mk (v := .bool _) rfl rfl)) ?_
      refine WL.nil ?_
      (refine hK _ _ ?_; clear hK)
      refine WC.ret ?_
      exact fun w' hw' => ⟨by rw [decide_eq_true (hA.all hl)]; rfl, hw'.1⟩
  · refine calls_wc (args := [.slice A a.length c, .slice A2 b.length c2]) [4] [] Try.func42 rfl Try.ntmps42 rfl rfl rfl rfl (H.refl w) ?_
    refine WC.seq fun K hK => ?_
    refine WC.region rfl ?_
    refine wG rfl rfl (g_assign rfl (.mk (v := .bool _) rfl rfl)) ?_
    refine WL.nil ?_
    (refine hK _ _ ?_; clear hK)
    refine WC.seq fun K hK => ?_
    refine WC.seq fun K hK => ?_
    refine WC.region rfl ?_
    refine wG rfl rfl (g_move rfl (.mk (v := .slice _ _ _) rfl rfl)) ?_
    refine wG rfl rfl (g_len rfl (.mk rfl rfl) rfl) ?_
    refine wG rfl rfl (g_move rfl (.mk (v := .slice _ _ _) rfl rfl)) ?_
    refine wG rfl rfl (g_len rfl (.mk rfl rfl) rfl) ?_
    refine wG rfl rfl (g_ne rfl (.mk rfl rfl) (.mk rfl rfl) (decide_eq_true (by omega))) ?_
    refine WL.nil ?_
    (refine hK _ _ ?_; clear hK)
    refine WC.cond_true (.mk rfl rfl) ?_
    refine WC.seq fun K hK => ?_
    refine WC.region rfl ?_
    refine wG rfl rfl (g_assign rfl (.mk (v := .bool _) rfl rfl)) ?_
    refine WL.nil ?_
    (refine hK _ _ ?_; clear hK)
    refine WC.ret ?_
    exact fun w' hw' => ⟨by rw [decide_eq_false (fun h => hl (by rw [h]))]; rfl, hw'.1⟩
set_option maxHeartbeats 1000000 in
theorem equal_e (v1 v2 : Value) (a b : List Blk) (w : World) (h1 : Sl w 8 v1 a.length (kvs a)) (h2 : Sl w 8 v2 b.length (kvs b)) :
    Calls Try.prog 59 #[v1, v2] w fun e w' => e = .returned (.bool (decide (a = b))) ∧ Below w.heap.size w w' := by
  obtain ⟨A, c, rfl, hc, hm, hs⟩ := h1.open_
  obtain ⟨A2, c2, rfl, hc2, hm2, hs2⟩ := h2.open_
  unfold maxLen at hm
  by_cases hl : a.length = b.length
  · refine calls_wc (args := [.slice A a.length c, .slice A2 b.length c2]) [4] [] Try.func59 rfl Try.ntmps59 rfl rfl rfl rfl (H.refl w) ?_
    refine WC.seq fun K hK => ?_
    refine WC.region rfl ?_
    refine wG rfl rfl (g_assign rfl (.mk (v := .bool _) rfl rfl)) ?_
    refine WL.nil ?_
    (refine hK _ _ ?_; clear hK)
    refine WC.seq fun K hK => ?_
    refine WC.seq fun K hK => ?_
    refine WC.region rfl ?_
    refine wG rfl rfl (g_move rfl (.mk (v := .slice _ _ _) rfl rfl)) ?_
    refine wG rfl rfl (g_len rfl (.mk rfl rfl) rfl) ?_
    refine wG rfl rfl (g_move rfl (.mk (v := .slice _ _ _) rfl rfl)) ?_
    refine wG rfl rfl (g_len rfl (.mk rfl rfl) rfl) ?_
    refine wG rfl rfl (g_ne rfl (.mk rfl rfl) (.mk rfl rfl) (decide_eq_false (by omega))) ?_
    refine WL.nil ?_
    (refine hK _ _ ?_; clear hK)
    refine WC.cond_false (.mk rfl rfl) ?_
    refine WC.skip ?_
    (refine hK _ _ ?_; clear hK)
    refine WC.seq fun K hK => ?_
    refine WC.seq fun K hK => ?_
    refine WC.region rfl ?_
    refine wG rfl rfl (g_move rfl (.mk (v := .slice _ _ _) rfl rfl)) ?_
    refine wG rfl rfl (g_len rfl (.mk rfl rfl) rfl) ?_
    refine wG rfl rfl (g_move rfl (.mk (v := .int _ _) rfl rfl)) ?_
    refine WL.nil ?_
    (refine hK _ _ ?_; clear hK)
    refine WC.block ?_
    refine WC.loop (67100720) (fun k : Nat => [(13, iv k)]) (fun _ => []) (fun k => k ≤ a.length ∧ Agr a b k) (fun k => a.length - k) 0 ⟨rfl, trivial⟩ (List.nil_sublist _) ⟨by omega, .zero _ _⟩ ?_
    rintro k U ⟨hk, hA⟩
    by_cases hlt : k < a.length
    · by_cases he : nth a k = nth b k
      · have E := blk_eq he
        refine WC.seq fun K hK => ?_
        refine WC.region rfl ?_
        refine wG rfl rfl (g_lt rfl (.mk rfl rfl) (.mk rfl rfl) (decide_eq_true (by omega))) ?_
        refine WL.nil ?_
        (refine hK _ _ ?_; clear hK)
        refine WC.seq fun K hK => ?_
        refine WC.cond_true (.mk rfl rfl) ?_
        refine WC.skip ?_
        (refine hK _ _ ?_; clear hK)
        refine WC.seq fun K hK => ?_
        refine WC.block ?_
        refine WC.seq fun K hK => ?_
        refine WC.region rfl ?_
        refine wG rfl rfl (g_move rfl (.mk (v := .int _ _) rfl rfl)) ?_
        refine wG rfl rfl (g_assign rfl (.mk (v := .int _ _) rfl rfl)) ?_
        refine WL.nil ?_
        (refine hK _ _ ?_; clear hK)
        refine WC.seq fun K hK => ?_
        refine WC.quiet rfl (by kernel_rfl) (by decide +kernel) ?_
        refine WQ.want rfl (WQ1.give rfl (g_move rfl (.mk (v := .slice _ _ _) rfl rfl)) ?_)
        refine WQ.want rfl (WQ1.give rfl (g_move rfl (.mk (v := .int _ _) rfl rfl)) ?_)
        refine WQ.want rfl (WQ1.give rfl (g_indexAddr (sz := 8) rfl (.mk rfl rfl) (.mk rfl rfl) rfl rfl rfl (by omega) (fun _ _ => sl_some hs (by omega))) ?_)
        refine WQ.want rfl (WQ1.give rfl (g_loadA rfl (.mk rfl rfl) rfl (sz8 _) (rdr_sl hs (by omega) (flat_row (by first | assumption | exact fun _ _ => rfl | exact blk8) (by omega)))) ?_)
        refine WQ.want rfl (WQ1.give rfl (g_move rfl (.mk (v := .slice _ _ _) rfl rfl)) ?_)
        refine WQ.want rfl (WQ1.give rfl (g_move rfl (.mk (v := .int _ _) rfl rfl)) ?_)
        refine WQ.want rfl (WQ1.give rfl (g_indexAddr (sz := 8) rfl (.mk rfl rfl) (.mk rfl rfl) rfl rfl rfl (by omega) (fun _ _ => sl_some hs2 (by omega))) ?_)
        refine WQ.want rfl (WQ1.give rfl (g_loadA rfl (.mk rfl rfl) rfl (sz8 _) (rdr_sl hs2 (by omega) (flat_row (by first | assumption | exact fun _ _ => rfl | exact blk8) (by omega)))) ?_)
        refine WQ.want rfl (WQ1.give rfl (g_ane (by kernel_rfl) rfl (.mk rfl rfl) (.mk rfl rfl) E) ?_)
        refine WQ.nil ?_
        (refine hK _ _ ?_; clear hK)
        refine WC.cond_false (.mk rfl rfl) ?_
        refine WC.skip ?_
        (refine hK _ _ ?_; clear hK)
        refine WC.region rfl ?_
        refine wG rfl rfl (g_add rfl (.mk rfl rfl) (.mk rfl rfl) (IntWalk.i64_in _ (by omega))) ?_
        refine wG rfl rfl (g_move rfl (.mk (v := .int _ _) rfl rfl)) ?_
        refine WL.nil ?_
        exact ⟨k + 1, (by repeat (first | with_reducible exact Out.refl _ _ | refine Out.set rfl ?_ | refine Out.put rfl ?_ | refine Out.sets rfl ?_ | refine Out.hav rfl ?_ | exact Out.refl _ _)), ⟨rfl, trivial⟩, .refl _, ⟨by omega, hA.succ he⟩, by omega⟩
      · have E := blk_ne he
        refine WC.seq fun K hK => ?_
        refine WC.region rfl ?_
        refine wG rfl rfl (g_lt rfl (.mk rfl rfl) (.mk rfl rfl) (decide_eq_true (by omega))) ?_
        refine WL.nil ?_
        (refine hK _ _ ?_; clear hK)
        refine WC.seq fun K hK => ?_
        refine WC.cond_true (.mk rfl rfl) ?_
        refine WC.skip ?_
        (refine hK _ _ ?_; clear hK)
        refine WC.seq fun K hK => ?_
        refine WC.block ?_
        refine WC.seq fun K hK => ?_
        refine WC.region rfl ?_
        refine wG rfl rfl (g_move rfl (.mk (v := .int _ _) rfl rfl)) ?_
        refine wG rfl rfl (g_assign rfl (.mk (v := .int _ _) rfl rfl)) ?_
        refine WL.nil ?_
        (refine hK _ _ ?_; clear hK)
        refine WC.seq fun K hK => ?_
        refine WC.quiet rfl (by kernel_rfl) (by decide +kernel) ?_
        refine WQ.want rfl (WQ1.give rfl (g_move rfl (.mk (v := .slice _ _ _) rfl rfl)) ?_)
        refine WQ.want rfl (WQ1.give rfl (g_move rfl (.mk (v := .int _ _) rfl rfl)) ?_)
        refine WQ.want rfl (WQ1.give rfl (g_indexAddr (sz := 8) rfl (.mk rfl rfl) (.mk rfl rfl) rfl rfl rfl (by omega) (fun _ _ => sl_some hs (by omega))) ?_)
        refine WQ.want rfl (WQ1.give rfl (g_loadA rfl (.mk rfl rfl) rfl (sz8 _) (rdr_sl hs (by omega) (flat_row (by first | assumption | exact fun _ _ => rfl | exact blk8) (by omega)))) ?_)
        refine WQ.want rfl (WQ1.give rfl (g_move rfl (.mk (v := .slice _ _ _) rfl rfl)) ?_)
        refine WQ.want rfl (WQ1.give rfl (g_move rfl (.mk (v := .int _ _) rfl rfl)) ?_)
        refine WQ.want rfl (WQ1.give rfl (g_indexAddr (sz := 8) rfl (.mk rfl rfl) (.mk rfl rfl) rfl rfl rfl (by omega) (fun _ _ => sl_some hs2 (by omega))) ?_)
        refine WQ.want rfl (WQ1.give rfl (g_loadA rfl (.mk rfl rfl) rfl (sz8 _) (rdr_sl hs2 (by omega) (flat_row (by first | assumption | exact fun _ _ => rfl | exact blk8) (by omega)))) ?_)
        refine WQ.want rfl (WQ1.give rfl (g_ane (by kernel_rfl) rfl (.mk rfl rfl) (.mk rfl rfl) E) ?_)
        refine WQ.nil ?_
        (refine hK _ _ ?_; clear hK)
        refine WC.cond_true (.mk rfl rfl) ?_
        refine WC.seq fun K hK => ?_
        refine WC.region rfl ?_
        refine wG rfl rfl (g_assign rfl (.mk (v := .bool _) rfl rfl)) ?_
        refine WL.nil ?_
        (refine hK _ _ ?_; clear hK)
        refine WC.ret ?_
        exact fun w' hw' => ⟨by rw [decide_eq_false (fun h => he (by rw [h]))]; rfl, hw'.1⟩
    · obtain rfl : k = a.length := by omega
      refine WC.seq fun K hK => ?_
      refine WC.region rfl ?_
      refine wG rfl rfl (g_lt rfl (.mk rfl rfl) (.mk rfl rfl) (decide_eq_false (by omega))) ?_
      refine WL.nil ?_
      (refine hK _ _ ?_; clear hK)
      refine WC.seq fun K hK => ?_
      refine WC.cond_false (.mk rfl rfl) ?_
      refine WC.exit ?_
      (clear hK; refine hK _ _ ?_; clear hK)
      refine WC.seq fun K hK => ?_
      refine WC.region rfl ?_
      refine wG rfl rfl (g_assign rfl (.mk (v := .bool _) rfl rfl)) ?_
      refine WL.nil ?_
      (refine hK _ _ ?_; clear hK)
      refine WC.ret ?_
      exact fun w' hw' => ⟨by rw [decide_eq_true (hA.all hl)]; rfl, hw'.1⟩
  · refine calls_wc (args := [.slice A a.length c, .slice A2 b.length c2]) [4] [] Try.func59 rfl Try.ntmps59 rfl rfl rfl rfl (H.refl w) ?_
    refine WC.seq fun K hK => ?_
    refine WC.region rfl ?_
    refine wG rfl rfl (g_assign rfl (.mk (v := .bool _) rfl rfl)) ?_
    refine WL.nil ?_
    (refine hK _ _ ?_; clear hK)
    refine WC.seq fun K hK => ?_
    refine WC.seq fun K hK => ?_
    refine WC.region rfl ?_
    refine wG rfl rfl (g_move rfl (.mk (v := .slice _ _ _) rfl rfl)) ?_
    refine wG rfl rfl (g_len rfl (.mk rfl rfl) rfl) ?_
    refine wG rfl rfl (g_move rfl (.mk (v := .slice _ _ _) rfl rfl)) ?_
    refine wG rfl rfl (g_len rfl (.mk rfl rfl) rfl) ?_
    refine wG rfl rfl (g_ne rfl (.mk rfl rfl) (.mk rfl rfl) (decide_eq_true (by omega))) ?_
    refine WL.nil ?_
    (refine hK _ _ ?_; clear hK)
    refine WC.cond_true (.mk rfl rfl) ?_
    refine WC.seq fun K hK => ?_
    refine WC.region rfl ?_
    refine wG rfl rfl (g_assign rfl (.mk (v := .bool _) rfl rfl)) ?_
    refine WL.nil ?_
    (refine hK _ _ ?_; clear hK)
    refine WC.ret ?_
    exact fun w' hw' => ⟨by rw [decide_eq_false (fun h => hl (by rw [h]))]; rfl, hw'.1⟩
end Go.Proofs.Ytnkbnponpknokaa
namespace Go.Proofs.Ytnkbnponpknokaa
set_option maxRecDepth 20000
open Go.RowKit
attribute [local irreducible] Calls
def rs (c : G) (ds : List Blk) : Nat → Blk
  | 0 => 0
  | i + 1 => rs c ds i + gpow c i * nth ds i
theorem nth_zero {α : Type} [Inhabited α] (a : α) (l : List α) : nth (a :: l) 0 = a := rfl
theorem nth_succ {α : Type} [Inhabited α] (a : α) (l : List α) (k : Nat) : nth (a :: l) (k + 1) = nth l k := by unfold nth; simp [List.getD_eq_getElem?_getD]
theorem rs_cons (c : G) (d : Blk) (ds : List Blk) : ∀ i, rs c (d :: ds) (i + 1) = d + c * rs c ds i
  | 0 => by rw [rs, rs, rs, nth_zero, gpow_zero, Blk.one_mul, Blk.mul_zero, Blk.add_zero, Blk.zero_add]
  | i + 1 => by
    rw [rs, rs_cons c d ds i, rs, nth_succ, Blk.mul_add, ← Blk.mul_mul, gpow_succ, G.mul_comm c, Blk.add_assoc]
theorem rs_hor (c : G) : ∀ ds : List Blk, rs c ds ds.length = hor c ds
  | [] => rfl
  | d :: ds => by rw [List.length_cons, rs_cons, rs_hor c ds]; rfl
theorem flat_put {α : Type} [Inhabited α] {enc : α → List Value} {sz : Nat} : ∀ {l : List α} {k j : Nat} {v : Value} {a' : α}, (∀ a ∈ l, (enc a).length = sz) → k < l.length → j < sz → enc a' = (enc (nth l k)).set j v → (l.flatMap enc).set (k * sz + j) v = (l.set k a').flatMap enc
  | [], k, _, _, _, _, hk, _, _ => absurd hk (by simp)
  | a :: l, 0, j, v, a', he, _, hj, ha => by
    rw [List.flatMap_cons, List.set_cons_zero, List.flatMap_cons, Nat.zero_mul, Nat.zero_add, List.set_append_left _ _ (by rw [he a (by simp)]; exact hj), ha, nth_zero]
  | a :: l, k + 1, j, v, a', he, hk, hj, ha => by
    have hl := he a (by simp)
    rw [List.flatMap_cons, List.set_cons_succ, List.flatMap_cons, List.set_append_right _ _ (by rw [hl, Nat.add_mul]; omega), hl, show (k + 1) * sz + j - sz = k * sz + j from by rw [Nat.add_mul]; omega,
      flat_put (fun b hb => he b (by simp [hb])) (by simpa using hk) hj (by rw [ha, nth_succ])]
theorem blk_put {l : List Blk} {q k i : Nat} {f g : Nat → G} {v : Value} (hq : q < l.length) (hk : k < 8) (hi : i = q * 8 + k) (hv : v = bv (f k)) : (kvs (l.set q (mix k f g))).set i v = kvs (l.set q (mix (k + 1) f g)) := by
  rw [hi, hv]
  have := flat_put (enc := Blk.cells) (sz := 8) (l := l.set q (mix k f g)) (k := q) (j := k) (v := bv (f k)) (a' := mix (k + 1) f g) blk8 (by rw [List.length_set]; exact hq) hk (by rw [nth_set_eq hq, if_pos rfl, mix_step f g hk])
  rw [List.set_set] at this
  exact this
theorem blk_get {l : List Blk} {q k i : Nat} (hq : q < l.length) (hk : k < 8) (hi : i = q * 8 + k) : (kvs l)[i]? = some (bv ((nth l q).at k)) := by
  rw [hi, flat_get blk8 hq hk, Blk.get _ hk]
def parP (j i : Nat) (ds : List Blk) : List Blk := (List.range 3).map fun q => if q < j then hor (gpow 2 q) ds else if q = j then rs (gpow 2 q) ds i else 0
theorem parP_len (j i : Nat) (ds : List Blk) : (parP j i ds).length = 3 := by simp [parP]
theorem parP_nth (j i : Nat) (ds : List Blk) {q : Nat} (h : q < 3) : nth (parP j i ds) q = if q < j then hor (gpow 2 q) ds else if q = j then rs (gpow 2 q) ds i else 0 := nth_range _ h
theorem parP_step {j i : Nat} {ds : List Blk} (h : j < 3) : (parP j i ds).set j (rs (gpow 2 j) ds (i + 1)) = parP j (i + 1) ds :=
  list_ext_nth (by rw [List.length_set, parP_len, parP_len]) fun q hq => by
    have hq3 : q < 3 := by rw [List.length_set, parP_len] at hq; exact hq
    rw [nth_set_eq (by rw [parP_len]; exact h), parP_nth _ _ _ hq3, parP_nth _ _ _ hq3]
    by_cases e : q = j
    · subst e; rw [if_pos rfl, if_neg (by omega), if_pos rfl]
    · rw [if_neg e, if_neg e, if_neg e]
theorem parP_next {j : Nat} {ds : List Blk} : parP j ds.length ds = parP (j + 1) 0 ds := List.map_congr_left fun q _ => by
  by_cases e : q = j
  · subst e; rw [if_neg (by omega), if_pos rfl, if_pos (by omega), rs_hor]
  · by_cases e2 : q < j
    · rw [if_pos e2, if_pos (by omega)]
    · rw [if_neg e2, if_neg e, if_neg (by omega)]
      by_cases e3 : q = j + 1
      · rw [if_pos e3]; rfl
      · rw [if_neg e3]
theorem parP_all (ds : List Blk) : parP 3 0 ds = enc ds := List.map_congr_left fun q hq => if_pos (by simpa using hq)
theorem madeP (ds : List Blk) : (madeCells (Value.agg z8.toArray).cells (3 * 8)).toList = kvs (parP 0 0 ds) := by
  rw [made3 ds]
  refine congrArg kvs (List.map_congr_left fun q _ => ?_)
  rw [if_neg (by omega), if_neg (by omega)]
  by_cases e : q = 0
  · rw [if_pos e]; rfl
  · rw [if_neg e]
theorem gpow_gpow (j i : Nat) : gpow (gpow 2 j) i = gpow 2 (j * i) := (gpow_mul 2 j i).symm
theorem set_self {α : Type} [Inhabited α] {l : List α} {k : Nat} {a : α} (hk : k < l.length) (h : nth l k = a) : l.set k a = l :=
  list_ext_nth (by rw [List.length_set]) fun j _ => by
    rw [nth_set_eq hk]
    by_cases e : j = k
    · rw [if_pos e, e, h]
    · rw [if_neg e]
theorem subV {A : Option Addr} {m c sz : Nat} {e : TypeId} {xs ys : List Value} {L M : List Asrt} (h : xs = ys) (hL : L.Sublist M) : (vec A m c e sz ys :: L).Sublist (vec A m c e sz xs :: M) := by rw [h]; exact .cons_cons _ hL
set_option maxHeartbeats 1000000 in
theorem parity_n (v : Value) (ds : List Blk) (w : World) (hv : Sl w 8 v ds.length (kvs ds)) (h2 : ds.length ≤ 1000) : Calls Try.prog 62 #[v] w fun e w' => ∃ v' M, e = .returned v' ∧ H w M w' ∧
    ∃ b, v' = .slice (some ⟨b, 0, none⟩) 3 3 ∧ M = [vec (some ⟨b, 0, none⟩) 3 3 38 8 (kvs (enc ds))] := by
  obtain ⟨A, c, rfl, hc, hm, hs⟩ := hv.open_
  refine calls_wc (args := [.slice A ds.length c]) [2] [] Try.func62 rfl Try.ntmps62 rfl rfl rfl rfl (H.refl w) ?_
  refine WC.seq fun K hK => ?_
  refine WC.region rfl ?_
  refine wG rfl rfl (g_assign rfl (.mk (v := .slice _ _ _) rfl rfl)) ?_
  refine WL.nil ?_
  (refine hK _ _ ?_; clear hK)
  refine WC.seq fun K hK => ?_
  refine WC.region rfl ?_
  refine WL.want rfl (WL1.make elK rfl rfl (.mk rfl rfl) (.mk rfl rfl) (Int.toNat_of_nonneg (by omega)).symm (Int.toNat_of_nonneg (by omega)).symm (by omega) (by unfold maxLen; omega) (fun b8 => ?_))
  refine wG rfl rfl (g_assign rfl (.mk (v := .slice _ _ _) rfl rfl)) ?_
  refine WL.nil ?_
  (refine hK _ _ ?_; clear hK)
  refine WC.seq fun K hK => ?_
  refine WC.seq fun K hK => ?_
  refine WC.region rfl ?_
  refine wG rfl rfl (g_assign rfl (.mk (v := .int _ _) rfl rfl)) ?_
  refine WL.nil ?_
  (refine hK _ _ ?_; clear hK)
  refine WC.block ?_
  refine WC.loop (17592186044144) (fun j : Nat => [(4, iv j)]) (fun j => [vec (some ⟨b8, 0, none⟩) 3 3 38 8 (kvs (parP j 0 ds))]) (fun j => j ≤ 3) (fun j => 3 - j) 0 ⟨rfl, trivial⟩ (by rw [← madeP ds]; exact .refl _) (by omega) ?_
  intro j U hj
  by_cases hlt : j < 3
  · refine WC.seq fun K hK => ?_
    refine WC.seq fun K hK => ?_
    refine WC.region rfl ?_
    refine wG rfl rfl (g_move rfl (.mk (v := .int _ _) rfl rfl)) ?_
    refine wG rfl rfl (g_lt rfl (.mk rfl rfl) (.mk rfl rfl) (decide_eq_true (by omega))) ?_
    refine WL.nil ?_
    (refine hK _ _ ?_; clear hK)
    refine WC.cond_true (.mk rfl rfl) ?_
    refine WC.skip ?_
    (refine hK _ _ ?_; clear hK)
    refine WC.seq fun K hK => ?_
    refine WC.block ?_
    refine WC.seq fun K hK => ?_
    refine WC.region rfl ?_
    refine wG rfl rfl (g_assign rfl (.mk (v := .int _ _) rfl rfl)) ?_
    refine WL.nil ?_
    (refine hK _ _ ?_; clear hK)
    refine WC.block ?_
    refine WC.loop (17592186036448) (fun i : Nat => [(5, iv i)]) (fun i => [vec (some ⟨b8, 0, none⟩) 3 3 38 8 (kvs (parP j i ds))]) (fun i => i ≤ ds.length) (fun i => ds.length - i) 0 ⟨rfl, trivial⟩ (.refl _) (by omega) ?_
    intro i V hi
    by_cases hlt2 : i < ds.length
    · have hji : j * i ≤ 3000 := Nat.le_trans (Nat.mul_le_mul (by omega : j ≤ 3) (by omega : i ≤ 1000)) (by omega)
      have hmul : IntKind.i64.wrap ((j : Int) * (i : Int)) = ((j * i : Nat) : Int) := by rw [← Int.natCast_mul]; exact IntWalk.i64_in _ (by omega)
      have hpw : ∀ w, Calls Try.prog 74 #[bv 2, iv (j * i : Nat)] w fun e w' => e = .returned (bv (gpow 2 (j * i))) ∧ w' = w := fun w => (rpower_any 2 (j * i : Nat) (by omega) w).mono fun _ _ ⟨h1, h2⟩ => ⟨by rw [h1, Int.toNat_natCast], h2.symm⟩
      refine WC.seq fun K hK => ?_
      refine WC.seq fun K hK => ?_
      refine WC.region rfl ?_
      refine wG rfl rfl (g_move rfl (.mk (v := .int _ _) rfl rfl)) ?_
      refine wG rfl rfl (g_move rfl (.mk (v := .slice _ _ _) rfl rfl)) ?_
      refine wG rfl rfl (g_len rfl (.mk rfl rfl) rfl) ?_
      refine wG rfl rfl (g_lt rfl (.mk rfl rfl) (.mk rfl rfl) (decide_eq_true (by omega))) ?_
      refine WL.nil ?_
      (refine hK _ _ ?_; clear hK)
      refine WC.cond_true (.mk rfl rfl) ?_
      refine WC.skip ?_
      (refine hK _ _ ?_; clear hK)
      refine WC.seq fun K hK => ?_
      refine WC.block ?_
      refine WC.seq fun K hK => ?_
      refine WC.region rfl ?_
      refine wG rfl rfl (g_move rfl (.mk (v := .int _ _) rfl rfl)) ?_
      refine wG rfl rfl (g_move rfl (.mk (v := .int _ _) rfl rfl)) ?_
      refine wG rfl rfl (g_mul rfl (.mk rfl rfl) (.mk rfl rfl) hmul) ?_
      refine WL.want rfl (WL1.callP rfl rfl rfl (.cons (.mk (v := .int _ _) rfl rfl) (.cons (.mk (v := .int _ _) rfl rfl) .nil)) (fun w hw => Calls.belowS (hpw w)) ?_)
      refine wG rfl rfl (g_assign rfl (.mk (v := .int _ _) rfl rfl)) ?_
      refine WL.nil ?_
      (refine hK _ _ ?_; clear hK)
      refine WC.seq fun K hK => ?_
      refine WC.region rfl ?_
      refine wG rfl rfl (g_assign rfl (.mk (v := .int _ _) rfl rfl)) ?_
      refine WL.nil ?_
      (refine hK _ _ ?_; clear hK)
      refine WC.block ?_
      obtain ⟨f, hf⟩ : ∃ f : Nat → G, f = fun q => (rs (gpow 2 j) ds i).at q + gpow 2 (j * i) * (nth ds i).at q := ⟨_, rfl⟩
      obtain ⟨g, hg⟩ : ∃ g : Nat → G, g = fun q => (rs (gpow 2 j) ds i).at q := ⟨_, rfl⟩
      have hpl := parP_len j i ds
      refine WC.loop (17592177655936) (fun k : Nat => [(7, iv k)]) (fun k => [vec (some ⟨b8, 0, none⟩) 3 3 38 8 (kvs ((parP j i ds).set j (mix k f g)))]) (fun k => k ≤ 8) (fun k => 8 - k) 0 ⟨rfl, trivial⟩ (by rw [mix_zero, hg, Blk.of_eta, set_self (by omega) (by rw [parP_nth _ _ _ hlt, if_neg (by omega), if_pos rfl])]; exact .refl _) (by omega) ?_
      intro k W hk
      by_cases hlt3 : k < 8
      · have hgk : (kvs ((parP j i ds).set j (mix k f g)))[j * 8 + k * 1]? = some (bv (g k)) := by
          rw [blk_get (q := j) (k := k) (by rw [List.length_set]; omega) hlt3 (by omega), nth_set_eq (by omega), if_pos rfl, mix_at _ _ hlt3, if_neg (by omega)]
        have hlx : (kvs ((parP j i ds).set j (mix k f g))).length = 3 * 8 := by rw [flat_len blk8, List.length_set, hpl]
        refine WC.seq fun K hK => ?_
        refine WC.seq fun K hK => ?_
        refine WC.region rfl ?_
        refine wG rfl rfl (g_move rfl (.mk (v := .int _ _) rfl rfl)) ?_
        refine wG rfl rfl (g_lt rfl (.mk rfl rfl) (.mk rfl rfl) (decide_eq_true (by omega))) ?_
        refine WL.nil ?_
        (refine hK _ _ ?_; clear hK)
        refine WC.cond_true (.mk rfl rfl) ?_
        refine WC.skip ?_
        (refine hK _ _ ?_; clear hK)
        refine WC.seq fun K hK => ?_
        refine WC.block ?_
        refine WC.split 17 rfl (by kernel_rfl) (by decide +kernel) ?_
        refine WQ.want rfl (WQ1.give rfl (g_move rfl (.mk (v := .slice _ _ _) rfl rfl)) ?_)
        refine WQ.want rfl (WQ1.give rfl (g_move rfl (.mk (v := .int _ _) rfl rfl)) ?_)
        refine WQ.want rfl (WQ1.give rfl (g_move rfl (.mk (v := .int _ _) rfl rfl)) ?_)
        refine WQ.want rfl (WQ1.give rfl (g_indexAddr (sz := 8) rfl (.mk rfl rfl) (.mk rfl rfl) rfl rfl rfl (by omega) (fun _ _ => rfl)) ?_)
        refine WQ.want rfl (WQ1.give rfl (g_indexAddrA (sz := 1) rfl (.mk rfl rfl) (.mk rfl rfl) rfl rfl rfl (by omega) (fun _ _ => rfl)) ?_)
        refine WQ.want rfl (WQ1.give rfl (g_load rfl (.mk rfl rfl) rfl (rd_vec (.head _) hgk)) ?_)
        refine WQ.want rfl (WQ1.give rfl (g_move rfl (.mk (v := .int _ _) rfl rfl)) ?_)
        refine WQ.want rfl (WQ1.give rfl (g_move rfl (.mk (v := .slice _ _ _) rfl rfl)) ?_)
        refine WQ.want rfl (WQ1.give rfl (g_move rfl (.mk (v := .int _ _) rfl rfl)) ?_)
        refine WQ.want rfl (WQ1.give rfl (g_move rfl (.mk (v := .int _ _) rfl rfl)) ?_)
        refine WQ.want rfl (WQ1.give rfl (g_indexAddr (sz := 8) rfl (.mk rfl rfl) (.mk rfl rfl) rfl rfl rfl (by omega) (fun _ _ => sl_some hs (by omega))) ?_)
        refine WQ.want rfl (WQ1.give rfl (g_indexAddrA (sz := 1) rfl (.mk rfl rfl) (.mk rfl rfl) rfl rfl rfl (by omega) (fun _ _ => sl_some hs (by omega))) ?_)
        refine WQ.want rfl (WQ1.give rfl (g_load rfl (.mk rfl rfl) rfl (rd_sl hs (blk_get hlt2 hlt3 (by omega)))) ?_)
        refine WQ.want rfl (WQ1.callP rfl rfl rfl (.cons (.mk (v := .int _ _) rfl rfl) (.cons (.mk (v := .int _ _) rfl rfl) .nil)) (fun w hw => Calls.belowS ((rmul_any _ _ w).mono fun _ _ ⟨h1, h2⟩ => ⟨h1, h2.symm⟩)) ?_)
        refine WQ.want rfl (WQ1.give rfl (g_xor (k := .u8) rfl (.mk rfl rfl) (.mk rfl rfl) (xor_u8 _ _)) ?_)
        refine WQ.want rfl (WQ1.give rfl (g_indexAddr (sz := 8) rfl (.mk rfl rfl) (.mk rfl rfl) rfl rfl rfl (by omega) (fun _ _ => rfl)) ?_)
        refine WQ.want rfl (WQ1.give rfl (g_indexAddrA (sz := 1) rfl (.mk rfl rfl) (.mk rfl rfl) rfl rfl rfl (by omega) (fun _ _ => rfl)) ?_)
        refine WQ.nil ?_
        refine WY.one 17 (by decide +kernel) rfl rfl ?_
        refine WL1.storeV1 rfl rfl (.mk rfl rfl) (.mk rfl rfl) rfl rfl (by first | omega | (simp; done) | (simp; omega)) (.head) ?_
        refine WL.nil ?_
        refine WY.done (by decide +kernel) ?_
        (refine hK _ _ ?_; clear hK)
        refine WC.region rfl ?_
        refine wG rfl rfl (g_move rfl (.mk (v := .int _ _) rfl rfl)) ?_
        refine wG rfl rfl (g_add rfl (.mk rfl rfl) (.mk rfl rfl) (IntWalk.i64_in _ (by omega))) ?_
        refine wG rfl rfl (g_assign rfl (.mk (v := .int _ _) rfl rfl)) ?_
        refine WL.nil ?_
        exact ⟨k + 1, (by repeat (first | with_reducible exact Out.refl _ _ | refine Out.set rfl ?_ | refine Out.put rfl ?_ | refine Out.sets rfl ?_ | refine Out.hav rfl ?_ | exact Out.refl _ _)), ⟨rfl, trivial⟩, subV (blk_put (by omega) hlt3 (by omega) (by rw [hf, hg]; rfl)) (.refl _), by omega, by omega⟩
      · obtain rfl : k = 8 := by omega
        have hfin : (parP j i ds).set j (mix 8 f g) = parP j (i + 1) ds := by
          rw [← parP_step hlt]
          congr 1
          rw [mix_all, hf, rs, gpow_gpow]
          exact Blk.ext_at fun q hq => by rw [Blk.of_at _ hq, Blk.add_at _ _ hq, Blk.mul_at _ _ hq]
        rw [hfin]
        refine WC.seq fun K hK => ?_
        refine WC.seq fun K hK => ?_
        refine WC.region rfl ?_
        refine wG rfl rfl (g_move rfl (.mk (v := .int _ _) rfl rfl)) ?_
        refine wG rfl rfl (g_lt rfl (.mk rfl rfl) (.mk rfl rfl) (decide_eq_false (by omega))) ?_
        refine WL.nil ?_
        (refine hK _ _ ?_; clear hK)
        refine WC.cond_false (.mk rfl rfl) ?_
        refine WC.exit ?_
        (clear hK; refine hK _ _ ?_; clear hK)
        refine WC.region rfl ?_
        refine wG rfl rfl (g_move rfl (.mk (v := .int _ _) rfl rfl)) ?_
        refine wG rfl rfl (g_add rfl (.mk rfl rfl) (.mk rfl rfl) (IntWalk.i64_in _ (by omega))) ?_
        refine wG rfl rfl (g_assign rfl (.mk (v := .int _ _) rfl rfl)) ?_
        refine WL.nil ?_
        exact ⟨i + 1, (by repeat (first | with_reducible exact Out.refl _ _ | refine Out.set rfl ?_ | refine Out.put rfl ?_ | refine Out.sets rfl ?_ | refine Out.hav rfl ?_ | exact Out.refl _ _)), ⟨rfl, trivial⟩, .refl _, by omega, by omega⟩
    · obtain rfl : i = ds.length := by omega
      refine WC.seq fun K hK => ?_
      refine WC.seq fun K hK => ?_
      refine WC.region rfl ?_
      refine wG rfl rfl (g_move rfl (.mk (v := .int _ _) rfl rfl)) ?_
      refine wG rfl rfl (g_move rfl (.mk (v := .slice _ _ _) rfl rfl)) ?_
      refine wG rfl rfl (g_len rfl (.mk rfl rfl) rfl) ?_
      refine wG rfl rfl (g_lt rfl (.mk rfl rfl) (.mk rfl rfl) (decide_eq_false (by omega))) ?_
      refine WL.nil ?_
      (refine hK _ _ ?_; clear hK)
      refine WC.cond_false (.mk rfl rfl) ?_
      refine WC.exit ?_
      (clear hK; refine hK _ _ ?_; clear hK)
      refine WC.region rfl ?_
      refine wG rfl rfl (g_move rfl (.mk (v := .int _ _) rfl rfl)) ?_
      refine wG rfl rfl (g_add rfl (.mk rfl rfl) (.mk rfl rfl) (IntWalk.i64_in _ (by omega))) ?_
      refine wG rfl rfl (g_assign rfl (.mk (v := .int _ _) rfl rfl)) ?_
      refine WL.nil ?_
      exact ⟨j + 1, (by repeat (first | with_reducible exact Out.refl _ _ | refine Out.set rfl ?_ | refine Out.put rfl ?_ | refine Out.sets rfl ?_ | refine Out.hav rfl ?_ | exact Out.refl _ _)), ⟨rfl, trivial⟩, by rw [← parP_next]; exact .refl _, by omega, by omega⟩
  · obtain rfl : j = 3 := by omega
    refine WC.seq fun K hK => ?_
    refine WC.seq fun K hK => ?_
    refine WC.region rfl ?_
    refine wG rfl rfl (g_move rfl (.mk (v := .int _ _) rfl rfl)) ?_
    refine wG rfl rfl (g_lt rfl (.mk rfl rfl) (.mk rfl rfl) (decide_eq_false (by omega))) ?_
    refine WL.nil ?_
    (refine hK _ _ ?_; clear hK)
    refine WC.cond_false (.mk rfl rfl) ?_
    refine WC.exit ?_
    (clear hK; refine hK _ _ ?_; clear hK)
    refine WC.seq fun K hK => ?_
    refine WC.region rfl ?_
    refine wG rfl rfl (g_move rfl (.mk (v := .slice _ _ _) rfl rfl)) ?_
    refine wG rfl rfl (g_assign rfl (.mk (v := .slice _ _ _) rfl rfl)) ?_
    refine WL.nil ?_
    (refine hK _ _ ?_; clear hK)
    refine WC.ret ?_
    exact fun w' hw' => ⟨_, _, rfl, hw', b8, rfl, by rw [← parP_all]⟩
end Go.Proofs.Ytnkbnponpknokaa
namespace Go.Proofs.Ytnkbnponpknokaa
set_option maxRecDepth 20000
open Go.RowKit
attribute [local irreducible] Calls
theorem kvs_one (l : List Blk) : ∀ u ∈ kvs l, u.oneCell' = true := fun u hu => by
  obtain ⟨b, _, hb⟩ := List.mem_flatMap.1 hu
  exact b.one u hb
theorem kvs_app (a b : List Blk) : kvs a ++ kvs b = kvs (a ++ b) := List.flatMap_append.symm
theorem kvs_len (l : List Blk) : (kvs l).length = l.length * 8 := flat_len blk8
theorem kvs_drop : ∀ (ds : List Blk) (l : Nat), (kvs ds).drop (l * 8) = kvs (ds.drop l)
  | ds, 0 => by simp
  | [], l + 1 => by simp
  | d :: ds, l + 1 => by
    rw [List.drop_succ_cons, ← kvs_drop ds l, kvs, List.flatMap_cons, List.drop_append, d.len, List.drop_eq_nil_of_le (by rw [d.len]; omega), List.nil_append, show (l + 1) * 8 - 8 = l * 8 from by omega]
theorem kvs_take : ∀ (ds : List Blk) (l : Nat), (kvs ds).take (l * 8) = kvs (ds.take l)
  | ds, 0 => by simp
  | [], l + 1 => by simp
  | d :: ds, l + 1 => by
    rw [List.take_succ_cons, kvs, List.flatMap_cons, List.take_append, d.len, List.take_of_length_le (by rw [d.len]; omega), show (l + 1) * 8 - 8 = l * 8 from by omega, kvs_take ds l]
    rfl
theorem Sl.blks {w : World} {m c l h : Nat} {A : Option Addr} {ds : List Blk} (hs : Sl w 8 (.slice A m c) m (kvs ds)) (hd : ds.length = m) (hl : l ≤ h) (hh : h ≤ m) : Sl w 8 (.slice (subA A c l 8) (h - l) (c - l)) ((ds.drop l).take (h - l)).length (kvs ((ds.drop l).take (h - l))) := by
  have := hs.sub hl hh
  rw [kvs_drop, kvs_take] at this
  rw [List.length_take, List.length_drop, Nat.min_eq_left (by omega)]
  exact this
set_option maxHeartbeats 1000000 in
theorem clone_n (v : Value) (ds : List Blk) (w : World) (hv : Sl w 8 v ds.length (kvs ds)) (h1 : 1 ≤ ds.length) (h2 : ds.length ≤ 1000) : Calls Try.prog 36 #[v] w fun e w' => ∃ v' M, e = .returned v' ∧ H w M w' ∧
    ∃ A c, v' = .slice A ds.length c ∧ M = [vec A ds.length c 38 8 (kvs ds)] := by
  obtain ⟨A, c, rfl, hc, hm, hs⟩ := hv.open_
  have hA := sl_some hs (by omega)
  refine calls_wc (args := [.slice A ds.length c]) [2] [] Try.func36 rfl Try.ntmps36 rfl rfl rfl rfl (H.refl w) ?_
  refine WC.seq fun K hK => ?_
  refine WC.region rfl ?_
  refine wG rfl rfl (g_assign rfl (.mk (v := .slice _ _ _) rfl rfl)) ?_
  refine WL.nil ?_
  (refine hK _ _ ?_; clear hK)
  refine WC.seq fun K hK => ?_
  refine WC.seq fun K hK => ?_
  refine WC.region rfl ?_
  refine wG rfl rfl (g_move rfl (.mk (v := .slice _ _ _) rfl rfl)) ?_
  refine wG rfl rfl (g_eqSNS rfl rfl (.mk rfl rfl) (.mk rfl rfl) ((fun _ _ => sl_some hs (by omega)))) ?_
  refine WL.nil ?_
  (refine hK _ _ ?_; clear hK)
  refine WC.cond_false (.mk rfl rfl) ?_
  refine WC.skip ?_
  (refine hK _ _ ?_; clear hK)
  refine WC.seq fun K hK => ?_
  refine WC.region rfl ?_
  refine WL.want rfl (WL1.lit (cs := []) elK rfl rfl rfl .nil rfl (by simp [Value.cells]) rfl rfl (fun b5 => ?_))
  refine wG rfl rfl (g_move rfl (.mk (v := .slice _ _ _) rfl rfl)) ?_
  refine WL.want rfl (WL1.append elK rfl rfl (.mk rfl rfl) (.mk rfl rfl) (.head) (fun w hw => Sl.below hs hw.1) (kvs_one _) (by unfold maxLen; omega) (by omega) (fun A7 c7 => ?_))
  refine wG rfl rfl (g_assign rfl (.mk (v := .slice _ _ _) rfl rfl)) ?_
  refine WL.nil ?_
  (refine hK _ _ ?_; clear hK)
  refine WC.ret ?_
  exact fun w' hw' => ⟨_, _, rfl, hw', A7, c7, by show Value.slice A7 (0 + ds.length) c7 = _; rw [Nat.zero_add], by rw [Nat.zero_add, List.nil_append]⟩
def isGroup (ps : List Blk) : Bool := decide (4 ≤ ps.length ∧ ps.length ≤ 16 ∧ enc (ps.take (ps.length - 3)) = ps.drop (ps.length - 3))
theorem isGroup_at {ps : List Blk} {n : Nat} (h : ps.length = n + 3) (h1 : 4 ≤ ps.length) (h2 : ps.length ≤ 16) : isGroup ps = decide (enc (ps.take n) = ps.drop n) := by
  unfold isGroup
  rw [show ps.length - 3 = n from by omega]
  exact decide_eq_decide.2 ⟨fun h => h.2.2, fun h => ⟨h1, h2, h⟩⟩
set_option maxHeartbeats 1000000 in
theorem check_e (v : Value) (ps : List Blk) (w : World) (hv : Sl w 8 v ps.length (kvs ps)) (h2 : ps.length ≤ 1000) : Calls Try.prog 34 #[v] w fun e w' => e = .returned (.bool (isGroup ps)) ∧ Below w.heap.size w w' := by
  obtain ⟨A, c, rfl, hc, hm, hs⟩ := hv.open_
  by_cases hn : 4 ≤ ps.length ∧ ps.length ≤ 16
  · obtain ⟨hn1, hn2⟩ := hn
    obtain ⟨n, hn⟩ : ∃ n, ps.length = n + 3 := ⟨ps.length - 3, by omega⟩
    have hp := hs.blks (l := 0) (h := n) rfl (by omega) (by omega)
    have hq := hs.blks (l := n) (h := ps.length) rfl (by omega) (by omega)
    rw [List.drop_zero, Nat.sub_zero] at hp
    have hlp : (ps.take n).length = n := by rw [List.length_take]; omega
    rw [List.take_of_length_le (by rw [List.length_drop]; omega)] at hq
    refine calls_wc (args := [.slice A ps.length c]) [2] [] Try.func34 rfl Try.ntmps34 rfl rfl rfl rfl (H.refl w) ?_
    have hsub : IntKind.i64.wrap ((ps.length : Int) - 3) = (n : Int) := by rw [IntWalk.i64_in _ (by omega)]; omega
    refine WC.seq fun K hK => ?_
    refine WC.region rfl ?_
    refine wG rfl rfl (g_assign rfl (.mk (v := .bool _) rfl rfl)) ?_
    refine WL.nil ?_
    (refine hK _ _ ?_; clear hK)
    refine WC.seq fun K hK => ?_
    refine WC.seq fun K hK => ?_
    refine WC.region rfl ?_
    refine wG rfl rfl (g_move rfl (.mk (v := .slice _ _ _) rfl rfl)) ?_
    refine wG rfl rfl (g_len rfl (.mk rfl rfl) rfl) ?_
    refine wG rfl rfl (g_lt rfl (.mk rfl rfl) (.mk rfl rfl) (decide_eq_false (by omega))) ?_
    refine wG rfl rfl (g_move rfl (.mk (v := .bool _) rfl rfl)) ?_
    refine WL.wantG rfl rfl rfl rfl (WL1.give rfl (g_move rfl (.mk (v := .slice _ _ _) rfl rfl)) ?_)
    refine WL.wantG rfl rfl rfl rfl (WL1.give rfl (g_len rfl (.mk rfl rfl) rfl) ?_)
    refine WL.wantG rfl rfl rfl rfl (WL1.give rfl (g_gt rfl (.mk rfl rfl) (.mk rfl rfl) (decide_eq_false (by omega))) ?_)
    refine wG rfl rfl (g_pickF rfl (.mk rfl rfl) (.mk (v := .bool _) rfl rfl)) ?_
    refine WL.nil ?_
    (refine hK _ _ ?_; clear hK)
    refine WC.cond_false (.mk rfl rfl) ?_
    refine WC.skip ?_
    (refine hK _ _ ?_; clear hK)
    refine WC.seq fun K hK => ?_
    refine WC.region rfl ?_
    refine wG rfl rfl (g_move rfl (.mk (v := .slice _ _ _) rfl rfl)) ?_
    refine wG rfl rfl (g_len rfl (.mk rfl rfl) rfl) ?_
    refine wG rfl rfl (g_sub (r := (n : Int)) rfl (.mk rfl rfl) (.mk rfl rfl) hsub) ?_
    refine wG rfl rfl (g_assign rfl (.mk (v := .int _ _) rfl rfl)) ?_
    refine WL.nil ?_
    (refine hK _ _ ?_; clear hK)
    refine WC.seq fun K hK => ?_
    refine WC.region rfl ?_
    refine wG rfl rfl (g_move rfl (.mk (v := .slice _ _ _) rfl rfl)) ?_
    refine wG rfl rfl (g_move rfl (.mk (v := .int _ _) rfl rfl)) ?_
    refine wG rfl rfl (g_slice (sz := 8) (kl := .i64) (p := 0) rfl (.mk rfl rfl) rfl rfl rfl ⟨(.mk rfl rfl), rfl⟩ (by omega) (by omega)) ?_
    (refine WL.want rfl (WL1.callN rfl rfl rfl (.cons (.mk (v := .slice _ _ _) rfl rfl) .nil) (fun w hw => encode_n _ (ps.take n) w (hp.below hw.1) (by omega) (by omega)) ?_); rintro _ _ ⟨be, rfl, rfl⟩)
    refine wG rfl rfl (g_move rfl (.mk (v := .tuple _) rfl rfl)) ?_
    refine wG rfl rfl (g_extract rfl (.mk rfl rfl) rfl) ?_
    refine wG rfl rfl (g_extract rfl (.mk rfl rfl) rfl) ?_
    refine wG rfl rfl (g_assign rfl (.mk (v := .slice _ _ _) rfl rfl)) ?_
    refine wG rfl rfl (g_assign rfl (.mk (v := .int _ _) rfl rfl)) ?_
    refine WL.nil ?_
    (refine hK _ _ ?_; clear hK)
    refine WC.seq fun K hK => ?_
    refine WC.region rfl ?_
    refine wG rfl rfl (g_move rfl (.mk (v := .int _ _) rfl rfl)) ?_
    refine wG rfl rfl (g_eq rfl (.mk rfl rfl) (.mk rfl rfl) (decide_eq_true (by omega))) ?_
    refine wG rfl rfl (g_move rfl (.mk (v := .bool _) rfl rfl)) ?_
    refine WL.wantG rfl rfl rfl rfl (WL1.give rfl (g_move rfl (.mk (v := .slice _ _ _) rfl rfl)) ?_)
    refine WL.wantG rfl rfl rfl rfl (WL1.give rfl (g_move rfl (.mk (v := .slice _ _ _) rfl rfl)) ?_)
    refine WL.wantG rfl rfl rfl rfl (WL1.give rfl (g_move rfl (.mk (v := .int _ _) rfl rfl)) ?_)
    refine WL.wantG rfl rfl rfl rfl (WL1.give rfl (g_slice (sz := 8) (kh := .i64) (q := 0) rfl (.mk rfl rfl) rfl rfl ⟨(.mk rfl rfl), rfl⟩ rfl (by omega) (by omega)) ?_)
    refine WL.wantG rfl rfl rfl rfl (WL1.callP rfl rfl rfl (.cons (.mk (v := .slice _ _ _) rfl rfl) (.cons (.mk (v := .slice _ _ _) rfl rfl) .nil)) (fun w hw => equal_e _ _ (enc (ps.take n)) (ps.drop n) w (Sl.of_vec hw (.head _)) (hq.below hw.1)) ?_)
    refine wG rfl rfl (g_pickT rfl (.mk rfl rfl) (.mk (v := .bool _) rfl rfl)) ?_
    refine wG rfl rfl (g_assign rfl (.mk (v := .bool _) rfl rfl)) ?_
    refine WL.nil ?_
    (refine hK _ _ ?_; clear hK)
    refine WC.ret ?_
    exact fun w' hw' => ⟨by show Ending.returned (.bool (decide (enc (ps.take n) = ps.drop n))) = _; rw [isGroup_at hn hn1 hn2], hw'.1⟩
  · refine calls_wc (args := [.slice A ps.length c]) [2] [] Try.func34 rfl Try.ntmps34 rfl rfl rfl rfl (H.refl w) ?_
    refine WC.seq fun K hK => ?_
    refine WC.region rfl ?_
    refine wG rfl rfl (g_assign rfl (.mk (v := .bool _) rfl rfl)) ?_
    refine WL.nil ?_
    (refine hK _ _ ?_; clear hK)
    refine WC.seq fun K hK => ?_
    refine WC.seq fun K hK => ?_
    refine WC.region rfl ?_
    refine wG rfl rfl (g_move rfl (.mk (v := .slice _ _ _) rfl rfl)) ?_
    refine wG rfl rfl (g_len rfl (.mk rfl rfl) rfl) ?_
    refine WL.want rfl (WL1.giveD rfl (g_lt rfl (.mk rfl rfl) (.mk rfl rfl) rfl) (fun _ => ?_) (fun _ => ?_))
    refine wG rfl rfl (g_move rfl (.mk (v := .bool _) rfl rfl)) ?_
    refine WL.skipG rfl rfl rfl rfl rfl rfl ?_
    refine WL.skipG rfl rfl rfl rfl rfl rfl ?_
    refine WL.skipG rfl rfl rfl rfl rfl rfl ?_
    refine wG rfl rfl (g_pickT rfl (.mk rfl rfl) (.mk (v := .bool _) rfl rfl)) ?_
    refine WL.nil ?_
    (refine hK _ _ ?_; clear hK)
    refine WC.cond_true (.mk rfl rfl) ?_
    refine WC.seq fun K hK => ?_
    refine WC.region rfl ?_
    refine wG rfl rfl (g_assign rfl (.mk (v := .bool _) rfl rfl)) ?_
    refine WL.nil ?_
    (refine hK _ _ ?_; clear hK)
    refine WC.ret ?_
    rotate_left
    refine wG rfl rfl (g_move rfl (.mk (v := .bool _) rfl rfl)) ?_
    refine WL.wantG rfl rfl rfl rfl (WL1.give rfl (g_move rfl (.mk (v := .slice _ _ _) rfl rfl)) ?_)
    refine WL.wantG rfl rfl rfl rfl (WL1.give rfl (g_len rfl (.mk rfl rfl) rfl) ?_)
    refine WL.wantG rfl rfl rfl rfl (WL1.give rfl (g_gt rfl (.mk rfl rfl) (.mk rfl rfl) (decide_eq_true (by omega))) ?_)
    refine wG rfl rfl (g_pickF rfl (.mk rfl rfl) (.mk (v := .bool _) rfl rfl)) ?_
    refine WL.nil ?_
    (refine hK _ _ ?_; clear hK)
    refine WC.cond_true (.mk rfl rfl) ?_
    refine WC.seq fun K hK => ?_
    refine WC.region rfl ?_
    refine wG rfl rfl (g_assign rfl (.mk (v := .bool _) rfl rfl)) ?_
    refine WL.nil ?_
    (refine hK _ _ ?_; clear hK)
    refine WC.ret ?_
    rotate_left
    all_goals exact fun w' hw' => ⟨by rw [isGroup, decide_eq_false (fun h => hn ⟨h.1, h.2.1⟩)]; rfl, hw'.1⟩
end Go.Proofs.Ytnkbnponpknokaa
namespace Go.Proofs.Ytnkbnponpknokaa
set_option maxRecDepth 20000
open Go.RowKit
theorem Sl.of_vecE {w0 w : World} {L : List Asrt} {m m' c sz : Nat} {A : Option Addr} {e : TypeId} {xs ys : List Value} (hw : H w0 L w) (hm : vec A m c e sz xs ∈ L) (h1 : m = m') (h2 : xs = ys) : Sl w sz (.slice A m c) m' ys := by
  subst h1; subst h2; exact Sl.of_vec hw hm
section
variable {P : Program} {n : Fr} {w0 : World} {C : World → Prop} {o : Oper} {E : Env} {L : List Asrt}
theorem g_sliceA {t e : TypeId} {x : Operand} {lo hi : Option Operand} {A : Option Addr} {m k l h sz : Nat} {kl kh : IntKind} {p q : Int} (ho : o.op = .slice t x lo hi none) (hx : Ev n E x (cellPtr A k)) (ht : P.underlying t = some (.array m e)) (hs : szT P e = some sz)
    (hlo : match lo with | none => l = 0 | some y => Ev n E y (.int kl p) ∧ p = (l : Int)) (hhi : match hi with | none => h = m | some y => Ev n E y (.int kh q) ∧ q = (h : Int)) (hlh : l ≤ h) (hhc : h ≤ m) (hA : ∀ w, C w → A.isSome = true) : Gives P n C o E (.slice (subA (A.map (·.add k)) m l sz) (h - l) (m - l)) := fun w hw => by
  obtain ⟨a, rfl⟩ := Option.isSome_iff_exists.1 (hA w hw)
  have hsub : ∀ (c : Nat), (some (if c = l then a.add k else (a.add k).add (l * sz)) : Option Addr) = subA ((some a).map (·.add k)) c l sz := fun c => by unfold subA; split <;> rfl
  unfold Ev at *; unfold execOp
  cases lo with
  | none =>
    simp only at hlo
    cases hi with
    | none =>
      simp only at hhi
      subst hlo; subst hhi
      simp [ho, hx, cellPtr_some, Instr.sliceAt, Instr.sureAddr, run_underlying ht, Instr.sliceBounds, run_size hs]
      simpa using hsub _
    | some y =>
      obtain ⟨hy, rfl⟩ := hhi
      subst hlo
      simp [ho, hx, hy, cellPtr_some, Instr.sliceAt, Instr.sureAddr, run_underlying ht, Instr.sliceBounds, Instr.sliceBound, asIntOf, run_size hs, hhc]
      simpa using hsub _
  | some y =>
    obtain ⟨hy, rfl⟩ := hlo
    have hlc : (l : Int) ≤ (h : Int) := by omega
    cases hi with
    | none =>
      simp only at hhi
      subst hhi
      simp [ho, hx, hy, cellPtr_some, Instr.sliceAt, Instr.sureAddr, run_underlying ht, Instr.sliceBounds, Instr.sliceBound, asIntOf, run_size hs, hlh]
      simpa using hsub _
    | some y' =>
      obtain ⟨hy', rfl⟩ := hhi
      simp [ho, hx, hy, hy', cellPtr_some, Instr.sliceAt, Instr.sureAddr, run_underlying ht, Instr.sliceBounds, Instr.sliceBound, asIntOf, run_size hs, hhc, hlh]
      simpa using hsub _
theorem vec_cap {w : World} {A : Option Addr} {m c sz : Nat} {e : TypeId} {xs : List Value} (hw : H w0 L w) (hm : vec A m c e sz xs ∈ L) : m ≤ c := by
  obtain ⟨_, A', c', h2, h3, _⟩ := Sl.of_vec hw hm
  injection h2 with _ _ e3
  subst e3; exact h3
theorem g_sliceC {t e : TypeId} {x : Operand} {lo hi : Option Operand} {A : Option Addr} {m c l h sz : Nat} {kl kh : IntKind} {p q : Int} (ho : o.op = .slice t x lo hi none) (hx : Ev n E x (.slice A m c)) (ht : P.underlying t = some (.slice e)) (hs : szT P e = some sz)
    (hlo : match lo with | none => l = 0 | some y => Ev n E y (.int kl p) ∧ p = (l : Int)) (hhi : match hi with | none => h = m | some y => Ev n E y (.int kh q) ∧ q = (h : Int)) (hlh : l ≤ h) (hhc : ∀ w, C w → h ≤ c) : Gives P n C o E (.slice (subA A c l sz) (h - l) (c - l)) := fun w hw =>
  g_slice (C := C) ho hx ht hs hlo hhi hlh (hhc w hw) w hw
end
/-! ### A region whose order is open: all of the head is waited for by the operation behind it -/
section
variable {P : Program} {C : World → Prop} {l : List Oper} {m : Nat}
def tailOk2 (l : List Oper) (m : Nat) : Bool :=
  headOk l m && decide (m ≤ l.length) && ((List.range m).all fun i => (List.range (m + 1)).any fun j => decide (i < j) && Region.waitsFor .any l.toArray j i) &&
  ((List.range l.length).all fun t => decide (t ≤ m) || (List.range t).any fun t' => decide (m ≤ t') && Region.waitsFor .any l.toArray t t') && Region.lexB .any (l.take m).toArray
end
section
variable {P : Program} {n : Fr} {w0 : World} {E : Env} {L : List Asrt} {Q : Exit → Post} {l : List Oper}
end
end Go.Proofs.Ytnkbnponpknokaa
namespace Go.Proofs.Ytnkbnponpknokaa
set_option maxRecDepth 20000
open Go.RowKit
structure Imp (L M : List Asrt) : Prop where
  foot : ∀ D ∈ M, ∀ b, D.foot b → ∃ C ∈ L, C.foot b
  sep : ∀ {B : Nat} {w : World}, Sep B w L → Sep B w M
theorem Imp.h {L M : List Asrt} {w0 w : World} (h : Imp L M) (hw : H w0 L w) : H w0 M w := ⟨hw.1, h.sep hw.2⟩
theorem Imp.refl (L : List Asrt) : Imp L L := ⟨fun D hD b hb => ⟨D, hD, hb⟩, fun h => h⟩
theorem Imp.trans {L M N : List Asrt} (h : Imp L M) (h2 : Imp M N) : Imp L N :=
  ⟨fun D hD b hb => by obtain ⟨C, hC, hc⟩ := h2.foot D hD b hb; exact h.foot C hC b hc, fun hs => h2.sep (h.sep hs)⟩
theorem Imp.sub {L M : List Asrt} (h : M.Sublist L) : Imp L M := ⟨fun D hD b hb => ⟨D, h.subset hD, hb⟩, fun hs => hs.sub h⟩
theorem Imp.perm {L M : List Asrt} (h : L.Perm M) : Imp L M := ⟨fun D hD b hb => ⟨D, h.mem_iff.2 hD, hb⟩, fun hs => hs.perm h⟩
theorem Imp.cons {L M : List Asrt} {A : Asrt} (h : Imp L M) : Imp (A :: L) (A :: M) :=
  ⟨fun D hD b hb => by
    rcases List.mem_cons.1 hD with rfl | hD
    · exact ⟨_, .head _, hb⟩
    · obtain ⟨C, hC, hc⟩ := h.foot D hD b hb; exact ⟨C, .tail _ hC, hc⟩,
   fun ⟨h1, h2, h3, h4⟩ => ⟨h1, h2, fun C hC b hb hc => by obtain ⟨D, hD, hd⟩ := h.foot C hC b hc; exact h3 D hD b hb hd, h.sep h4⟩⟩
theorem Sep.raise {B : Nat} {w : World} : ∀ {M : List Asrt}, Sep 0 w M → (∀ D ∈ M, ∀ b, D.foot b → B ≤ b) → Sep B w M
  | [], _, _ => trivial
  | A :: M, ⟨h1, h2, h3, h4⟩, hb => ⟨h1, fun b hf => ⟨hb A (by simp) b hf, (h2 b hf).2⟩, h3, h4.raise fun D hD => hb D (by simp [hD])⟩
theorem Sep.parts {B : Nat} {w : World} : ∀ {M L : List Asrt}, Sep B w (M ++ L) → Sep B w M ∧ Sep B w L ∧ ∀ A ∈ M, ∀ C ∈ L, ∀ b, A.foot b → C.foot b → False
  | [], _, h => ⟨trivial, h, by simp⟩
  | A :: M, L, ⟨h1, h2, h3, h4⟩ => by
    obtain ⟨q1, q2, q3⟩ := h4.parts
    refine ⟨⟨h1, h2, fun C hC => h3 C (by simp [hC]), q1⟩, q2, fun D hD C hC b => ?_⟩
    rcases List.mem_cons.1 hD with rfl | hD
    · exact h3 C (by simp [hC]) b
    · exact q3 D hD C hC b
def bun (M : List Asrt) : Asrt where
  foot b := ∃ D ∈ M, D.foot b
  ok w := Sep 0 w M
  loc w w' h hw := by
    induction M with
    | nil => trivial
    | cons A M ih =>
      obtain ⟨h1, h2, h3, h4⟩ := hw
      refine ⟨A.loc w w' (fun b hb => h b ⟨A, by simp, hb⟩) h1, fun b hb => ⟨Nat.zero_le _, ?_⟩, h3, ih (fun b ⟨D, hD, hb⟩ => h b ⟨D, by simp [hD], hb⟩) h4⟩
      have h5 := h b ⟨A, by simp, hb⟩
      rw [Array.getElem?_eq_getElem (h2 b hb).2] at h5
      exact (Array.getElem?_eq_some_iff.1 h5).1
theorem Imp.unbun (M L : List Asrt) : Imp (bun M :: L) (M ++ L) :=
  ⟨fun D hD b hb => by
    rcases List.mem_append.1 hD with h | h
    · exact ⟨_, .head _, D, h, hb⟩
    · exact ⟨D, .tail _ h, hb⟩,
   fun ⟨h1, h2, h3, h4⟩ => (Sep.raise h1 fun D hD b hb => (h2 b ⟨D, hD, hb⟩).1).append h4 fun A hA C hC b hb hc => h3 C hC b ⟨A, hA, hb⟩ hc⟩
theorem Imp.bun (M L : List Asrt) : Imp (M ++ L) (bun M :: L) :=
  ⟨fun D hD b hb => by
    rcases List.mem_cons.1 hD with rfl | h
    · obtain ⟨C, hC, hc⟩ := hb; exact ⟨C, List.mem_append_left _ hC, hc⟩
    · exact ⟨D, List.mem_append_right _ h, hb⟩,
   fun hs => by
    obtain ⟨q1, q2, q3⟩ := hs.parts
    exact ⟨q1.mono (Nat.zero_le _), fun b ⟨D, hD, hb⟩ => (q1.in_ D hD).2 b hb, fun C hC b ⟨D, hD, hb⟩ hc => q3 D hD C hC b hb hc, q2⟩⟩
theorem Swap.perms {A A' : Asrt} {L L' : List Asrt} (h : Swap A A' L L') : ∃ L1, L.Perm (A :: L1) ∧ L'.Perm (A' :: L1) := by
  induction h with
  | head => exact ⟨_, .refl _, .refl _⟩
  | tail _ ih => obtain ⟨L1, h1, h2⟩ := ih; exact ⟨_ :: L1, (List.Perm.cons _ h1).trans (List.Perm.swap _ _ _), (List.Perm.cons _ h2).trans (List.Perm.swap _ _ _)⟩
section
variable {P : Program} {n : Fr} {w0 : World} {ops : Array Oper} {K : Post} {o : Oper} {rest : List Oper} {E : Env} {L M : List Asrt} {Q : Exit → Post}
theorem WL.imp {l : List Oper} (h : Imp L M) (k : WL P n w0 ops K l E M) : WL P n w0 ops K l E L := fun w hw => k w (h.h hw)
theorem WL1.imp (h : Imp L M) (k : WL1 P n w0 ops K o rest E M) : WL1 P n w0 ops K o rest E L := fun w hw => k w (h.h hw)
theorem WC.loopI {c : Code} {γ : Type} (m : Nat) (VI : γ → List (Nat × Value)) (LI : γ → List Asrt) (pre : γ → Prop) (μ : γ → Nat) (g : γ) (hE : Agree E (VI g)) (hL : Imp L (LI g)) (hp : pre g)
    (round : ∀ g U, pre g → WC P n w0 c (seqQ (fun E' L' => ∃ g', Out m E' E ∧ Agree E' (VI g') ∧ Imp L' (LI g') ∧ pre g' ∧ μ g' < μ g) Q) (sets (hav m E U) (VI g)) (LI g)) : WC P n w0 (.loop c) Q E L := by
  intro w hw
  refine wpIn_loop_ghost (Q := liftQ n w0 Q) (fun k a w => ∃ g U, μ g = k ∧ a = actOf n (sets (hav m E U) (VI g)) ∧ H w0 (LI g) w ∧ pre g) (μ g) ⟨g, E, rfl, ?_, hL.h hw, hp⟩ ?_
  · rw [hav_out (Out.refl m E), sets_same hE]
  · rintro k a w' ⟨g, U, rfl, rfl, hH, hp'⟩
    refine wpIn_mono (round g U hp' w' hH) ?_
    intro e a' w'' hq
    cases e with
    | normal =>
      obtain ⟨E', L', rfl, hH', g', ho, ha, hs, hp'', hm⟩ := hq
      exact ⟨μ g', hm, g', E', rfl, by rw [hav_out ho, sets_same ha], hs.h hH', hp''⟩
    | _ => exact hq
theorem WC.loopI2 {c : Code} {α β : Type} (m : Nat) (VI : α → β → List (Nat × Value)) (LI : α → β → List Asrt) (pre : α → β → Prop) (μ : α → β → Nat) (g0 : α) (g1 : β) (hE : Agree E (VI g0 g1)) (hL : Imp L (LI g0 g1)) (hp : pre g0 g1)
    (round : ∀ h0 h1 U, pre h0 h1 → WC P n w0 c (seqQ (fun E' L' => ∃ g0 g1, Out m E' E ∧ Agree E' (VI g0 g1) ∧ Imp L' (LI g0 g1) ∧ pre g0 g1 ∧ μ g0 g1 < μ h0 h1) Q) (sets (hav m E U) (VI h0 h1)) (LI h0 h1)) : WC P n w0 (.loop c) Q E L :=
  WC.loopI (γ := α × β) m (fun g => VI g.1 g.2) (fun g => LI g.1 g.2) (fun g => pre g.1 g.2) (fun g => μ g.1 g.2) (g0, g1) hE hL hp fun g U hpre w hw => wpMono (by
    intro e a w' hq
    cases e with
    | normal => obtain ⟨E', L', rfl, hH, g0, g1, h⟩ := hq; exact ⟨E', L', rfl, hH, (g0, g1), h⟩
    | _ => exact hq) (round g.1 g.2 U hpre w hw)
theorem WC.loopI3 {c : Code} {α β γ : Type} (m : Nat) (VI : α → β → γ → List (Nat × Value)) (LI : α → β → γ → List Asrt) (pre : α → β → γ → Prop) (μ : α → β → γ → Nat) (g0 : α) (g1 : β) (g2 : γ) (hE : Agree E (VI g0 g1 g2)) (hL : Imp L (LI g0 g1 g2)) (hp : pre g0 g1 g2)
    (round : ∀ h0 h1 h2 U, pre h0 h1 h2 → WC P n w0 c (seqQ (fun E' L' => ∃ g0 g1 g2, Out m E' E ∧ Agree E' (VI g0 g1 g2) ∧ Imp L' (LI g0 g1 g2) ∧ pre g0 g1 g2 ∧ μ g0 g1 g2 < μ h0 h1 h2) Q) (sets (hav m E U) (VI h0 h1 h2)) (LI h0 h1 h2)) : WC P n w0 (.loop c) Q E L :=
  WC.loopI (γ := α × β × γ) m (fun g => VI g.1 g.2.1 g.2.2) (fun g => LI g.1 g.2.1 g.2.2) (fun g => pre g.1 g.2.1 g.2.2) (fun g => μ g.1 g.2.1 g.2.2) (g0, g1, g2) hE hL hp fun g U hpre w hw => wpMono (by
    intro e a w' hq
    cases e with
    | normal => obtain ⟨E', L', rfl, hH, g0, g1, g2, h⟩ := hq; exact ⟨E', L', rfl, hH, (g0, g1, g2), h⟩
    | _ => exact hq) (round g.1 g.2.1 g.2.2 U hpre w hw)
end
theorem own_n {w w' : World} {e : TypeId} {sz n : Nat} {v : Value} {xs : List Value} (h : w'.ownsRow w.heap.size e sz v n xs) (hb : Below w.heap.size w w') : ∃ A c, v = .slice A n c ∧ H w [vec A n c e sz xs] w' := by
  rcases h.2 with ⟨h2, h3⟩ | ⟨g, cap, cur, h2, hg, h4, h5, h6, h7, h8⟩
  · subst h3
    refine ⟨none, 0, h2, hb, ⟨h.1, .inl ⟨rfl, rfl⟩⟩, ?_, by simp, trivial⟩
    rintro b ⟨a, ha, _⟩; cases ha
  · refine ⟨some ⟨g, 0, none⟩, cap, h2, hb, ⟨h.1, .inr ⟨g, cap, cur, rfl, Nat.zero_le _, h4, h5, h6, h7, h8⟩⟩, ?_, by simp, trivial⟩
    rintro b ⟨a, ha, rfl⟩
    injection ha with ha
    subst ha
    exact ⟨hg, (Array.getElem?_eq_some_iff.1 h4).1⟩
end Go.Proofs.Ytnkbnponpknokaa
namespace Go.Proofs.Ytnkbnponpknokaa
set_option maxRecDepth 20000
open Go.RowKit
section
variable {P : Program} {n : Fr} {w0 : World} {E : Env} {L LS : List Asrt} {Q : Exit → Post} {K : Post} {l : List Oper} {f : Nat} {marks : Array Bool}
def WH (P : Program) (n : Fr) (w0 : World) (l : List Oper) (K : Post) (LS : List Asrt) (f : Nat) (marks : Array Bool) (E : Env) (L : List Asrt) : Prop :=
  ∀ w, H w0 L w → ∀ Q : Exit → Act → World → Prop, (∀ c a w, ¬ Q (.panic c) a w) → (∀ E' L' w', H w0 L' w' → K E' L' → Q .normal (actOf n E') w') → wpAnyH P .any l.toArray Q (H w0 LS) f marks (actOf n E) w
theorem WC.held (LS : List Asrt) {id : Nat} (hf : fitsR n l = true) (hm : P.follows .mixedOrders = true) (h : WH P n w0 l (Q .normal) LS l.length (Array.replicate l.length false) E L) : WC P n w0 (.region id l.toArray true) Q E L := fun w hw => by
  refine wpF_any (by simpa using hf) liftQ_in hm ?_
  have := wpAny_of_held _ _ _ _ (h _ hw.drew (liftQ n w0 Q) (fun _ _ _ h => h) fun E' L' w' hH hK => ⟨_, _, rfl, hH, hK⟩)
  simpa using this
theorem WH.done (hr : Region.ready .any l.toArray marks = []) (h : K E L) : WH P n w0 l K LS f marks E L := fun w hw Q _ hQ => wpAnyH_done hr (hQ _ _ _ hw h) f
theorem WH.take (i : Nat) {o : Oper} {d : Nat} {v : Value} (ho : l[i]? = some o) (hs : Region.noSelect l.toArray = true) (hf : Region.free .any l.toArray marks i = true) (hr : (Region.ready .any l.toArray marks).contains i = true)
    (hg : o.guard = none) (hd : o.dst = some d) (hi : Imp L LS) (h : Gives P n (H w0 LS) o E v) (k : WH P n w0 l K LS f (marks.setIfInBounds i true) (E.set d v) L) : WH P n w0 l K LS (f + 1) marks E L := fun w hw Q hP hQ => by
  refine wpAnyH_take (i := i) (oi := o) (v := v) (by rw [List.getElem?_toArray]; exact ho) hs hf hr (fun c a w hq => absurd hq (hP _ _ _)) (.inl ⟨by simp [Region.wanted, hg], fun w' hw' => h w' hw'⟩) (hi.h hw) ?_
  rw [actOf_put, hd]
  exact k w hw Q hP hQ
theorem WH.all {rs : List Nat} (hr : Region.ready .any l.toArray marks = rs) (hne : rs ≠ []) (h : ∀ i ∈ rs, ∃ o, l[i]? = some o ∧ o.guard = none ∧ WL1 P n w0 l.toArray (fun E' L' => Imp L' LS ∧ WH P n w0 l K LS f (marks.setIfInBounds i true) E' L') o [] E L) : WH P n w0 l K LS (f + 1) marks E L := fun w hw Q hP hQ => by
  refine ⟨fun h0 => absurd (hr ▸ h0) hne, fun i hi => ?_⟩
  rw [hr] at hi
  obtain ⟨o, ho, hg, h1⟩ := h i hi
  unfold wpOp
  rw [List.getElem?_toArray, ho]
  simp only [Region.wanted, hg, if_true]
  left
  have h2 := h1 w hw (fun e a w => match e with | .normal => H w0 LS w ∧ wpAnyH P .any l.toArray Q (H w0 LS) f (marks.setIfInBounds i true) a w | e => Q e a w) (fun E' L' w' hH hK => ⟨hK.1.h hH, hK.2 w' hH Q hP hQ⟩) (fun a w => H w0 LS w ∧ wpAnyH P .any l.toArray Q (H w0 LS) f (marks.setIfInBounds i true) a w) (fun a w h => h)
  refine wp_panics ?_ h2
  intro e a w hne hq
  cases e <;> first | exact hq | exact absurd rfl hne
theorem WH.one (i : Nat) {o : Oper} (hr : Region.ready .any l.toArray marks = [i]) (ho : l[i]? = some o) (hg : o.guard = none) (h : WL1 P n w0 l.toArray (fun E' L' => Imp L' LS ∧ WH P n w0 l K LS f (marks.setIfInBounds i true) E' L') o [] E L) : WH P n w0 l K LS (f + 1) marks E L :=
  WH.all hr (by simp) fun j hj => by
    obtain rfl : j = i := by simpa using hj
    exact ⟨o, ho, hg, h⟩
theorem WH.two (i j : Nat) {o o' : Oper} (hr : Region.ready .any l.toArray marks = [i, j]) (ho : l[i]? = some o) (ho' : l[j]? = some o') (hg : o.guard = none) (hg' : o'.guard = none) (h : WL1 P n w0 l.toArray (fun E' L' => Imp L' LS ∧ WH P n w0 l K LS f (marks.setIfInBounds i true) E' L') o [] E L)
    (h' : WL1 P n w0 l.toArray (fun E' L' => Imp L' LS ∧ WH P n w0 l K LS f (marks.setIfInBounds j true) E' L') o' [] E L) : WH P n w0 l K LS (f + 1) marks E L :=
  WH.all hr (by simp) fun k hk => by
    rcases List.mem_cons.1 hk with rfl | hk
    · exact ⟨o, ho, hg, h⟩
    · obtain rfl : k = j := by simpa using hk
      exact ⟨o', ho', hg', h'⟩
end
def cellA (A : Option Addr) (k : Nat) (v : Value) : Asrt where
  foot b := ∃ a, A = some a ∧ a.block = b
  ok w := ∃ a, A = some a ∧ w.cell? (a.add k) = some v
  loc w w' h hw := by
    obtain ⟨a, rfl, hc⟩ := hw
    refine ⟨a, rfl, ?_⟩
    unfold World.cell? at hc ⊢
    rw [h _ ⟨a, rfl, (addBlock a k).symm⟩]; exact hc
theorem Imp.nil (L : List Asrt) : Imp L [] := Imp.sub (List.nil_sublist _)
theorem Imp.skip {A : Asrt} {L M : List Asrt} (h : Imp L M) : Imp (A :: L) M := (Imp.sub (.cons _ (.refl _))).trans h
theorem Imp.cellc {A : Option Addr} {m c sz k : Nat} {e : TypeId} {xs : List Value} {v : Value} {L M : List Asrt} (hx : xs[k]? = some v) (h : Imp L M) : Imp (vec A m c e sz xs :: L) (cellA A k v :: M) :=
  Imp.trans (M := vec A m c e sz xs :: M) (Imp.cons h) ⟨fun D hD b hb => by
    rcases List.mem_cons.1 hD with rfl | hD
    · exact ⟨_, .head _, hb⟩
    · exact ⟨D, .tail _ hD, hb⟩, fun {B w} ⟨h1, h2, h3, h4⟩ => by
    refine ⟨?_, h2, h3, h4⟩
    obtain ⟨q1, A', c', q2, q3, q4, q5⟩ := Sl.of_own h1
    injection q2 with e1 e2 e3
    have hk : k < xs.length := (List.getElem?_eq_some_iff.1 hx).1
    have hm : 0 < m := by
      rcases Nat.eq_zero_or_pos m with h | h
      · rw [q1, h, Nat.zero_mul] at hk; omega
      · exact h
    obtain ⟨ad, e, _, hc⟩ := q5 hm
    exact ⟨ad, e1.trans e, hc k v hx⟩⟩
theorem rd_cellA {w0 : World} {L : List Asrt} {A : Option Addr} {k : Nat} {v : Value} (hm : cellA A k v ∈ L) : RdC (H w0 L) A k v := fun w hw => (hw.2.in_ _ hm).1
section
variable {P : Program} {n : Fr} {w0 : World} {E : Env} {L : List Asrt} {Q : Exit → Post}
theorem WC.learn {φ : Prop} {c : Code} (h : ∀ w, H w0 L w → φ) (k : φ → WC P n w0 c Q E L) : WC P n w0 c Q E L := fun w hw => k (h w hw) w hw
theorem WC.seqP {x y : Code} {γ : Type} (m : Nat) (VI : γ → List (Nat × Value)) (LI : γ → List Asrt) (pre : γ → Prop) (h1 : WC P n w0 x (seqQ (fun E' L' => ∃ g, Out m E' E ∧ Agree E' (VI g) ∧ Imp L' (LI g) ∧ pre g) Q) E L)
    (h2 : ∀ g U, pre g → WC P n w0 y Q (sets (hav m E U) (VI g)) (LI g)) : WC P n w0 (.seq x y) Q E L := by
  refine WC.seq fun K hK w hw => wpMono ?_ (h1 w hw)
  intro e a w' hq
  cases e with
  | normal =>
    obtain ⟨E', L', rfl, hH, g, ho, ha, hs, hp⟩ := hq
    refine ⟨E', LI g, rfl, hs.h hH, hK _ _ ?_⟩
    have := h2 g E' hp
    rwa [hav_out ho, sets_same ha] at this
  | _ => exact hq
end
section
variable {P : Program} {n : Fr} {w0 : World} {ops : Array Oper} {K : Post} {o : Oper} {rest : List Oper} {E : Env} {L L' : List Asrt}
theorem WL1.copyV {x y : Operand} {t t' e : TypeId} {d : Option Tmp} {A : Option Addr} {m c k : Nat} {src : Value} {xs news : List Value} (ht : P.underlying t = some (.slice e)) (hs1 : szT P e = some 1)
    (ho : o.op = .call { callee := .builtin .copy, args := #[x, y], argTypes := #[t, t'] }) (hd : o.dst = d) (hx : Ev n E x (.slice A m c)) (hy : Ev n E y src) (h0 : 0 < k) (hkm : k ≤ m)
    (hsl : ∀ w, H w0 L w → Sl w 1 src k news) (h1 : ∀ u ∈ news, u.oneCell' = true) (hs : Swap (vec A m c e 1 xs) (vec A m c e 1 (news ++ xs.drop k)) L L')
    (h : WL P n w0 ops K rest (E.put d (.int .i64 k)) L') : WL1 P n w0 ops K o rest E L := fun w hw Q hQ K' hK => by
  have hown : w.ownsRow 0 e 1 (.slice A m c) m xs := (hw.2.in_ _ hs.mem).1
  obtain ⟨e1, A2, c2, rfl, hc2, hm2, hcell⟩ := hsl w hw
  obtain ⟨ad, rfl, hadl, hcs⟩ := hcell h0
  rw [Nat.mul_one] at e1
  rcases hown.2 with ⟨h2, h3⟩ | ⟨g, cap, cur, h2, h3, h4, h5, h6, h7, h8⟩
  · omega
  · injection h2 with f1 f2 f3
    subst f1
    have hxl : xs.length = m := by have := hown.1; omega
    have hcur : m ≤ cur.size := by rw [← Nat.mul_one m, ← hown.1, ← h8]; simp; omega
    have hsz : (P.info? e).map (·.size) = some 1 := hs1
    have hrun := run_copy_row (P := P) w t t' o.type e g 0 m c ad k c2 cur e news ht hsz h4 (by show news.length = min k m; rw [Nat.min_eq_left hkm]; exact e1) hcs (by omega) h1
    unfold Ev at hx hy
    unfold Oper.wp execOp
    simp only [ho, resolve, invoke, builtin, Sem.run_bind, Sem.run_pure, Result.andThen_ok, List.map_toArray, List.map_cons, List.map_nil, hx, hy, hrun]
    show K' _ _
    rw [actOf_put, hd]
    have hgo : goInt news.length = .int .i64 k := by rw [e1]; rfl
    rw [hgo]
    refine hK _ _ (h _ ?_ Q hQ)
    refine hw.swapped hs (by simp) rfl rfl rfl (fun _ h => h) (fun i hi => setRow_other _ _ _ _ fun e => hi ⟨_, rfl, e.symm⟩) ?_
    refine ⟨?_, .inr ⟨g, cap, _, by rw [← f3], h3, setRow_heap w g cur _ e (0, 0) h4, h5, h6, ?_, ?_⟩⟩
    · rw [List.length_append, List.length_drop]; omega
    · simp only [List.size_toArray, List.length_append, List.length_take, List.length_drop, Array.length_toList]; omega
    · rw [← h8]
      simp only [Nat.zero_add, List.take_zero, List.nil_append, List.toList_toArray, e1, Nat.mul_one]
      rw [List.take_append, List.take_of_length_le (by omega), e1, List.drop_take]
end
end Go.Proofs.Ytnkbnponpknokaa
namespace Go.Proofs.Ytnkbnponpknokaa
set_option maxRecDepth 20000
open Go.RowKit
section
variable {P : Program} {ops : Array Oper} {Q : Exit → Act → World → Prop} {S : World → Prop} {bars : List Nat}
def barred (bars : List Nat) (s : Array Bool) : Bool := bars.any fun b => s.getD b false
def wpUntil (P : Program) (ops : Array Oper) (Q : Exit → Act → World → Prop) (S : World → Prop) (bars : List Nat) : Nat → Array Bool → Act → World → Prop
  | 0, s, a, w => Region.ready .any ops s = [] ∧ Q .normal a w
  | k + 1, s, a, w => (Region.ready .any ops s = [] → Q .normal a w) ∧ ∀ i ∈ Region.ready .any ops s, wpOp P ops Q i (fun a' w' => (barred bars (s.setIfInBounds i true) = true ∨ S w') ∧ wpUntil P ops Q S bars k (s.setIfInBounds i true) a' w') a w
theorem wpUntil.any : ∀ {k : Nat} {s : Array Bool} {a : Act} {w : World}, wpUntil P ops Q S bars k s a w → wpAny P .any ops Q k s a w
  | 0, _, _, _, h => h
  | _ + 1, _, _, _, h => ⟨h.1, fun i hi => wpOp_mono (fun _ _ h2 => h2.2.any) (h.2 i hi)⟩
def directB (ops : Array Oper) (j i : Nat) : Bool := match ops[j]? with | some o => o.after.any fun e => Region.binds .any e && e.on == i | none => false
theorem not_waits {s : Array Bool} {i j : Nat} (hi : i ∈ Region.ready .any ops s) (hj : j ∈ Region.ready .any ops s) : ∀ oj, ops[j]? = some oj → ∀ e ∈ oj.after, Region.binds .any e = true → e.on ≠ i := by
  intro oj hoj e he hb heq
  obtain ⟨_, o, ho, hall⟩ := mem_ready.1 hj
  obtain rfl : o = oj := Option.some.inj (ho.symm.trans hoj)
  have h1 := hall e he hb
  rw [heq, getD_both (mem_ready.1 hi).1] at h1
  cases h1
theorem not_bar {s : Array Bool} {i j : Nat} (hi : i ∈ Region.ready .any ops s) (hj : j ∈ Region.ready .any ops s) (hd : directB ops j i = true) : False := by
  obtain ⟨_, o, ho, _⟩ := mem_ready.1 hj
  unfold directB at hd
  rw [ho] at hd
  obtain ⟨e, he, h2⟩ := Array.any_eq_true'.1 hd
  simp only [Bool.and_eq_true, beq_iff_eq] at h2
  exact not_waits hi hj o ho e he h2.1 h2.2
theorem wpUntil.first {i : Nat} {o : Oper} {v : Value} (ho : ops[i]? = some o) (hsel : ∀ (j : Nat) (o : Oper) cs b, ops[j]? = some o → o.op ≠ .select cs b) (hQ : ∀ c a w, Q (.panic c) (a.put o.dst v) w → Q (.panic c) a w) :
    ∀ (k : Nat) (s : Array Bool) (a : Act) (w : World), (∀ j oj, ops[j]? = some oj → j ≠ i → s.getD j true = false → (∀ e ∈ oj.after, Region.binds .any e = true → e.on ≠ i) → o.apart ops oj = true) →
      (∀ b ∈ bars, s.getD b false = false ∧ directB ops b i = true) → i ∈ Region.ready .any ops s → YieldsIf P ops S o v a → S w →
      wpUntil P ops Q S bars k (s.setIfInBounds i true) (a.put o.dst v) w → wpUntil P ops Q S bars (k + 1) s a w := by
  intro k
  induction k with
  | zero =>
    intro s a w _ _ hr hy hS h
    refine ⟨fun h0 => absurd (h0 ▸ hr) (by simp), fun j hj => ?_⟩
    by_cases hji : j = i
    · subst hji; exact hy.wpOp ho hS ⟨.inr hS, h⟩
    · have := ready_mono hj hji
      rw [h.1] at this; cases this
  | succ k ih =>
    intro s a w hfree hbar hr hy hS h
    refine ⟨fun h0 => absurd (h0 ▸ hr) (by simp), fun j hj => ?_⟩
    by_cases hji : j = i
    · subst hji; exact hy.wpOp ho hS ⟨.inr hS, h⟩
    · obtain ⟨hjun, oj, hoj, _⟩ := mem_ready.1 hj
      have hap := hfree j oj hoj hji hjun (not_waits hr hj oj hoj)
      have h2 := wpOp_putIf hoj hap (fun cs b => hsel i o cs b ho) (fun cs b => hsel j oj cs b hoj) hQ hy (h.2 j (ready_mono hj hji))
      refine wpOp_mono ?_ h2
      rintro a' w' ⟨hy', hS', h'⟩
      have hSw : S w' := by
        rcases hS' with hb | hS'
        · obtain ⟨b, hb, hl⟩ := List.any_eq_true.1 hb
          obtain ⟨h3, h4⟩ := hbar b hb
          by_cases e : j = b
          · subst e; exact (not_bar hr hj h4).elim
          · by_cases e2 : i = b
            · subst e2; exact (not_bar hr hr h4).elim
            · rw [getD_set_ne false e, getD_set_ne false e2, h3] at hl; cases hl
        · exact hS'
      refine ⟨.inr hSw, ih (s.setIfInBounds j true) a' w' (fun q oq hq hqi hun hno => hfree q oq hq hqi ?_ hno) (fun b hb => ⟨?_, (hbar b hb).2⟩) (ready_mono hr fun e => hji e.symm) hy' hSw ?_⟩
      · by_cases hjq : j = q
        · subst hjq; exact hjun
        · rwa [getD_set_ne true hjq] at hun
      · by_cases e : j = b
        · subst e; exact (not_bar hr hj (hbar j hb).2).elim
        · rw [getD_set_ne false e]; exact (hbar b hb).1
      · rw [Array.setIfInBounds_comm _ _ hji]; exact h'
theorem wpUntil.firstP {i : Nat} {o : Oper} {v : Value} (ho : ops[i]? = some o) (hsel : ∀ (j : Nat) (o : Oper) cs b, ops[j]? = some o → o.op ≠ .select cs b) (hQ : ∀ c a w, Q (.panic c) (a.put o.dst v) w → Q (.panic c) a w) :
    ∀ (k : Nat) (s : Array Bool) (a : Act) (w : World), (∀ j oj, ops[j]? = some oj → j ≠ i → s.getD j true = false → (∀ e ∈ oj.after, Region.binds .any e = true → e.on ≠ i) → o.apart ops oj = true) →
      i ∉ bars → i ∈ Region.ready .any ops s → YieldsIf P ops (fun _ => True) o v a → (barred bars s = true ∨ S w) →
      wpUntil P ops Q S bars k (s.setIfInBounds i true) (a.put o.dst v) w → wpUntil P ops Q S bars (k + 1) s a w := by
  have grow : ∀ (s : Array Bool) (j : Nat), barred bars s = true → barred bars (s.setIfInBounds j true) = true := fun s j h => by
    obtain ⟨b, hb, hl⟩ := List.any_eq_true.1 h
    refine List.any_eq_true.2 ⟨b, hb, ?_⟩
    by_cases e : j = b
    · subst e
      have hlt : j < s.size := by
        rcases Nat.lt_or_ge j s.size with h | h
        · exact h
        · simp [Array.getD_eq_getD_getElem?, Array.getElem?_eq_none h] at hl
      simp [Array.getD_eq_getD_getElem?, hlt]
    · rw [getD_set_ne false e]; exact hl
  intro k
  induction k with
  | zero =>
    intro s a w _ hib hr hy hS h
    refine ⟨fun h0 => absurd (h0 ▸ hr) (by simp), fun j hj => ?_⟩
    by_cases hji : j = i
    · subst hji; exact hy.wpOp ho trivial ⟨hS.imp (grow s _) id, h⟩
    · have := ready_mono hj hji
      rw [h.1] at this; cases this
  | succ k ih =>
    intro s a w hfree hib hr hy hS h
    refine ⟨fun h0 => absurd (h0 ▸ hr) (by simp), fun j hj => ?_⟩
    by_cases hji : j = i
    · subst hji; exact hy.wpOp ho trivial ⟨hS.imp (grow s _) id, h⟩
    · obtain ⟨hjun, oj, hoj, _⟩ := mem_ready.1 hj
      have hap := hfree j oj hoj hji hjun (not_waits hr hj oj hoj)
      have h2 := wpOp_putIf hoj hap (fun cs b => hsel i o cs b ho) (fun cs b => hsel j oj cs b hoj) hQ hy (h.2 j (ready_mono hj hji))
      refine wpOp_mono ?_ h2
      rintro a' w' ⟨hy', hS', h'⟩
      have hb' : barred bars (s.setIfInBounds j true) = true ∨ S w' := by
        rcases hS' with hb | hS'
        · left
          obtain ⟨b, hb, hl⟩ := List.any_eq_true.1 hb
          have e2 : i ≠ b := fun e => hib (e ▸ hb)
          refine List.any_eq_true.2 ⟨b, hb, ?_⟩
          by_cases e : j = b
          · subst e
            have hlt : j < s.size := by
              rcases Nat.lt_or_ge j s.size with h | h
              · exact h
              · simp [Array.getD_eq_getD_getElem?, Array.getElem?_eq_none h] at hjun
            simp [Array.getD_eq_getD_getElem?, hlt]
          · rw [getD_set_ne false e, getD_set_ne false e2] at hl
            rw [getD_set_ne false e]; exact hl
        · exact .inr hS'
      refine ⟨hb', ih (s.setIfInBounds j true) a' w' (fun q oq hq hqi hun hno => hfree q oq hq hqi ?_ hno) hib (ready_mono hr fun e => hji e.symm) hy' hb' ?_⟩
      · by_cases hjq : j = q
        · subst hjq; exact hjun
        · rwa [getD_set_ne true hjq] at hun
      · rw [Array.setIfInBounds_comm _ _ hji]; exact h'
end
section
variable {P : Program} {n : Fr} {w0 : World} {E : Env} {L LS : List Asrt} {bars : List Nat} {Q : Exit → Post} {K : Post} {l : List Oper} {f : Nat} {marks : Array Bool}
def WB (P : Program) (n : Fr) (w0 : World) (l : List Oper) (K : Post) (LS : List Asrt) (bars : List Nat) (f : Nat) (marks : Array Bool) (E : Env) (L : List Asrt) : Prop :=
  ∀ w, H w0 L w → ∀ Q : Exit → Act → World → Prop, (∀ c a w, ¬ Q (.panic c) a w) → (∀ E' L' w', H w0 L' w' → K E' L' → Q .normal (actOf n E') w') → wpUntil P l.toArray Q (H w0 LS) bars f marks (actOf n E) w
theorem WC.until (LS : List Asrt) (bars : List Nat) {id : Nat} (hf : fitsR n l = true) (hm : P.follows .mixedOrders = true) (h : WB P n w0 l (Q .normal) LS bars l.length (Array.replicate l.length false) E L) : WC P n w0 (.region id l.toArray true) Q E L := fun w hw => by
  refine wpF_any (by simpa using hf) liftQ_in hm ?_
  have := (h _ hw.drew (liftQ n w0 Q) (fun _ _ _ h => h) fun E' L' w' hH hK => ⟨_, _, rfl, hH, hK⟩).any
  simpa using this
theorem WC.untilL (bars : List Nat) {id : Nat} (hf : fitsR n l = true) (hm : P.follows .mixedOrders = true) (h : WB P n w0 l (Q .normal) L bars l.length (Array.replicate l.length false) E L) : WC P n w0 (.region id l.toArray true) Q E L := WC.until L bars hf hm h
theorem WB.free (h : WY P n w0 l K f marks E L) (hb : ∀ i ∈ Region.ready .any l.toArray marks, i ∈ bars) (hr : Region.ready .any l.toArray marks = []) : WB P n w0 l K LS bars f marks E L := fun w hw Q hP hQ => by
  have := h w hw Q hP hQ
  cases f with
  | zero => exact this
  | succ f => exact ⟨this.1, by rw [hr]; simp⟩
theorem WB.done (hr : Region.ready .any l.toArray marks = []) (h : K E L) : WB P n w0 l K LS bars f marks E L := WB.free (WY.done hr h) (by rw [hr]; simp) hr
def barsOk (l : List Oper) (bars : List Nat) (marks : Array Bool) (i : Nat) : Bool := bars.all fun b => !marks.getD b false && directB l.toArray b i
theorem WB.take (i : Nat) {o : Oper} {d : Nat} {v : Value} (ho : l[i]? = some o) (hs : Region.noSelect l.toArray = true) (hf : Region.free .any l.toArray marks i = true) (hr : (Region.ready .any l.toArray marks).contains i = true)
    (hb : barsOk l bars marks i = true) (hg : o.guard = none) (hd : o.dst = some d) (hi : Imp L LS) (h : Gives P n (H w0 LS) o E v) (k : WB P n w0 l K LS bars f (marks.setIfInBounds i true) (E.set d v) L) : WB P n w0 l K LS bars (f + 1) marks E L := fun w hw Q hP hQ => by
  have ho' : l.toArray[i]? = some o := by rw [List.getElem?_toArray]; exact ho
  refine wpUntil.first ho' (Region.noSelect_spec hs) (fun c a w hq => absurd hq (hP _ _ _)) f marks _ w (Region.free_spec ho' hf) (fun b hbm => ?_) (by simpa using hr) (.inl ⟨by simp [Region.wanted, hg], fun w' hw' => h w' hw'⟩) (hi.h hw) ?_
  · have := List.all_eq_true.1 hb b hbm
    simp only [Bool.and_eq_true, Bool.not_eq_true'] at this
    exact this
  · rw [actOf_put, hd]
    exact k w hw Q hP hQ
theorem WB.takeP (i : Nat) {o : Oper} {d : Nat} {v : Value} (ho : l[i]? = some o) (hs : Region.noSelect l.toArray = true) (hf : Region.free .any l.toArray marks i = true) (hr : (Region.ready .any l.toArray marks).contains i = true)
    (hb : bars.contains i = false) (hg : o.guard = none) (hd : o.dst = some d) (hi : barred bars marks = true ∨ Imp L LS) (h : Gives P n (fun _ => True) o E v) (k : WB P n w0 l K LS bars f (marks.setIfInBounds i true) (E.set d v) L) : WB P n w0 l K LS bars (f + 1) marks E L := fun w hw Q hP hQ => by
  have ho' : l.toArray[i]? = some o := by rw [List.getElem?_toArray]; exact ho
  refine wpUntil.firstP ho' (Region.noSelect_spec hs) (fun c a w hq => absurd hq (hP _ _ _)) f marks _ w (Region.free_spec ho' hf) (by simpa using hb) (by simpa using hr) (.inl ⟨by simp [Region.wanted, hg], fun w' _ => h w' trivial⟩) (hi.imp id (fun h => h.h hw)) ?_
  rw [actOf_put, hd]
  exact k w hw Q hP hQ
theorem WB.all {rs : List Nat} (hr : Region.ready .any l.toArray marks = rs) (hne : rs ≠ []) (h : ∀ i ∈ rs, ∃ o, l[i]? = some o ∧ o.guard = none ∧ WL1 P n w0 l.toArray (fun E' L' => (barred bars (marks.setIfInBounds i true) = true ∨ Imp L' LS) ∧ WB P n w0 l K LS bars f (marks.setIfInBounds i true) E' L') o [] E L) : WB P n w0 l K LS bars (f + 1) marks E L := fun w hw Q hP hQ => by
  refine ⟨fun h0 => absurd (hr ▸ h0) hne, fun i hi => ?_⟩
  rw [hr] at hi
  obtain ⟨o, ho, hg, h1⟩ := h i hi
  unfold wpOp
  rw [List.getElem?_toArray, ho]
  simp only [Region.wanted, hg, if_true]
  left
  have h2 := h1 w hw (fun e a w => match e with | .normal => (barred bars (marks.setIfInBounds i true) = true ∨ H w0 LS w) ∧ wpUntil P l.toArray Q (H w0 LS) bars f (marks.setIfInBounds i true) a w | e => Q e a w) (fun E' L' w' hH hK => ⟨hK.1.imp id (fun h => h.h hH), hK.2 w' hH Q hP hQ⟩) (fun a w => (barred bars (marks.setIfInBounds i true) = true ∨ H w0 LS w) ∧ wpUntil P l.toArray Q (H w0 LS) bars f (marks.setIfInBounds i true) a w) (fun a w h => h)
  refine wp_panics ?_ h2
  intro e a w hne hq
  cases e <;> first | exact hq | exact absurd rfl hne
theorem WB.one (i : Nat) {o : Oper} (hr : Region.ready .any l.toArray marks = [i]) (ho : l[i]? = some o) (hg : o.guard = none) (h : WL1 P n w0 l.toArray (fun E' L' => (barred bars (marks.setIfInBounds i true) = true ∨ Imp L' LS) ∧ WB P n w0 l K LS bars f (marks.setIfInBounds i true) E' L') o [] E L) : WB P n w0 l K LS bars (f + 1) marks E L :=
  WB.all hr (by simp) fun j hj => by
    obtain rfl : j = i := by simpa using hj
    exact ⟨o, ho, hg, h⟩
theorem WB.two (i j : Nat) {o o' : Oper} (hr : Region.ready .any l.toArray marks = [i, j]) (ho : l[i]? = some o) (ho' : l[j]? = some o') (hg : o.guard = none) (hg' : o'.guard = none) (h : WL1 P n w0 l.toArray (fun E' L' => (barred bars (marks.setIfInBounds i true) = true ∨ Imp L' LS) ∧ WB P n w0 l K LS bars f (marks.setIfInBounds i true) E' L') o [] E L)
    (h' : WL1 P n w0 l.toArray (fun E' L' => (barred bars (marks.setIfInBounds j true) = true ∨ Imp L' LS) ∧ WB P n w0 l K LS bars f (marks.setIfInBounds j true) E' L') o' [] E L) : WB P n w0 l K LS bars (f + 1) marks E L :=
  WB.all hr (by simp) fun k hk => by
    rcases List.mem_cons.1 hk with rfl | hk
    · exact ⟨o, ho, hg, h⟩
    · obtain rfl : k = j := by simpa using hk
      exact ⟨o', ho', hg', h'⟩
end
theorem Imp.pick {A : Asrt} {L L1 M : List Asrt} (hT : Take A L L1) (h : Imp L1 M) : Imp L (A :: M) := (Imp.perm hT.perm).trans (Imp.cons h)
end Go.Proofs.Ytnkbnponpknokaa
namespace Go.Proofs.Ytnkbnponpknokaa
set_option maxRecDepth 20000
open Go.RowKit
section
variable {P : Program} {n : Fr} {w0 : World} {E : Env} {L : List Asrt} {Q : Exit → Post}
theorem WC.loopF {c : Code} {γ : Type} (VI : γ → List (Nat × Value)) (LI : γ → List Asrt) (pre : γ → Prop) (μ : γ → Nat) (g : γ) (hE : Agree E (VI g)) (hL : Imp L (LI g)) (hp : pre g)
    (round : ∀ g U, pre g → WC P n w0 c (seqQ (fun E' L' => ∃ g', Agree E' (VI g') ∧ Imp L' (LI g') ∧ pre g' ∧ μ g' < μ g) Q) (sets U (VI g)) (LI g)) : WC P n w0 (.loop c) Q E L := by
  intro w hw
  refine wpIn_loop_ghost (Q := liftQ n w0 Q) (fun k a w => ∃ g U, μ g = k ∧ a = actOf n (sets U (VI g)) ∧ H w0 (LI g) w ∧ pre g) (μ g) ⟨g, E, rfl, ?_, hL.h hw, hp⟩ ?_
  · rw [sets_same hE]
  · rintro k a w' ⟨g, U, rfl, rfl, hH, hp'⟩
    refine wpIn_mono (round g U hp' w' hH) ?_
    intro e a' w'' hq
    cases e with
    | normal =>
      obtain ⟨E', L', rfl, hH', g', ha, hs, hp'', hm⟩ := hq
      exact ⟨μ g', hm, g', E', rfl, by rw [sets_same ha], hs.h hH', hp''⟩
    | _ => exact hq
theorem WC.seqF {x y : Code} {γ : Type} (VI : γ → List (Nat × Value)) (LI : γ → List Asrt) (pre : γ → Prop) (h1 : WC P n w0 x (seqQ (fun E' L' => ∃ g, Agree E' (VI g) ∧ Imp L' (LI g) ∧ pre g) Q) E L)
    (h2 : ∀ g U, pre g → WC P n w0 y Q (sets U (VI g)) (LI g)) : WC P n w0 (.seq x y) Q E L := by
  refine WC.seq fun K hK w hw => wpMono ?_ (h1 w hw)
  intro e a w' hq
  cases e with
  | normal =>
    obtain ⟨E', L', rfl, hH, g, ha, hs, hp⟩ := hq
    refine ⟨E', LI g, rfl, hs.h hH, hK _ _ ?_⟩
    have := h2 g E' hp
    rwa [sets_same ha] at this
  | _ => exact hq
theorem WC.loopF2 {c : Code} {α β : Type} (VI : α → β → List (Nat × Value)) (LI : α → β → List Asrt) (pre : α → β → Prop) (μ : α → β → Nat) (g0 : α) (g1 : β) (hE : Agree E (VI g0 g1)) (hL : Imp L (LI g0 g1)) (hp : pre g0 g1)
    (round : ∀ h0 h1 U, pre h0 h1 → WC P n w0 c (seqQ (fun E' L' => ∃ g0 g1, Agree E' (VI g0 g1) ∧ Imp L' (LI g0 g1) ∧ pre g0 g1 ∧ μ g0 g1 < μ h0 h1) Q) (sets U (VI h0 h1)) (LI h0 h1)) : WC P n w0 (.loop c) Q E L :=
  WC.loopF (γ := α × β) (fun g => VI g.1 g.2) (fun g => LI g.1 g.2) (fun g => pre g.1 g.2) (fun g => μ g.1 g.2) (g0, g1) hE hL hp fun g U hpre w hw => wpMono (by
    intro e a w' hq
    cases e with
    | normal => obtain ⟨E', L', rfl, hH, g0, g1, h⟩ := hq; exact ⟨E', L', rfl, hH, (g0, g1), h⟩
    | _ => exact hq) (round g.1 g.2 U hpre w hw)
theorem WC.loopF3 {c : Code} {α β γ : Type} (VI : α → β → γ → List (Nat × Value)) (LI : α → β → γ → List Asrt) (pre : α → β → γ → Prop) (μ : α → β → γ → Nat) (g0 : α) (g1 : β) (g2 : γ) (hE : Agree E (VI g0 g1 g2)) (hL : Imp L (LI g0 g1 g2)) (hp : pre g0 g1 g2)
    (round : ∀ h0 h1 h2 U, pre h0 h1 h2 → WC P n w0 c (seqQ (fun E' L' => ∃ g0 g1 g2, Agree E' (VI g0 g1 g2) ∧ Imp L' (LI g0 g1 g2) ∧ pre g0 g1 g2 ∧ μ g0 g1 g2 < μ h0 h1 h2) Q) (sets U (VI h0 h1 h2)) (LI h0 h1 h2)) : WC P n w0 (.loop c) Q E L :=
  WC.loopF (γ := α × β × γ) (fun g => VI g.1 g.2.1 g.2.2) (fun g => LI g.1 g.2.1 g.2.2) (fun g => pre g.1 g.2.1 g.2.2) (fun g => μ g.1 g.2.1 g.2.2) (g0, g1, g2) hE hL hp fun g U hpre w hw => wpMono (by
    intro e a w' hq
    cases e with
    | normal => obtain ⟨E', L', rfl, hH, g0, g1, g2, h⟩ := hq; exact ⟨E', L', rfl, hH, (g0, g1, g2), h⟩
    | _ => exact hq) (round g.1 g.2.1 g.2.2 U hpre w hw)
theorem WC.loopF4 {c : Code} {α β γ δ : Type} (VI : α → β → γ → δ → List (Nat × Value)) (LI : α → β → γ → δ → List Asrt) (pre : α → β → γ → δ → Prop) (μ : α → β → γ → δ → Nat) (g0 : α) (g1 : β) (g2 : γ) (g3 : δ) (hE : Agree E (VI g0 g1 g2 g3)) (hL : Imp L (LI g0 g1 g2 g3)) (hp : pre g0 g1 g2 g3)
    (round : ∀ h0 h1 h2 h3 U, pre h0 h1 h2 h3 → WC P n w0 c (seqQ (fun E' L' => ∃ g0 g1 g2 g3, Agree E' (VI g0 g1 g2 g3) ∧ Imp L' (LI g0 g1 g2 g3) ∧ pre g0 g1 g2 g3 ∧ μ g0 g1 g2 g3 < μ h0 h1 h2 h3) Q) (sets U (VI h0 h1 h2 h3)) (LI h0 h1 h2 h3)) : WC P n w0 (.loop c) Q E L :=
  WC.loopF (γ := α × β × γ × δ) (fun g => VI g.1 g.2.1 g.2.2.1 g.2.2.2) (fun g => LI g.1 g.2.1 g.2.2.1 g.2.2.2) (fun g => pre g.1 g.2.1 g.2.2.1 g.2.2.2) (fun g => μ g.1 g.2.1 g.2.2.1 g.2.2.2) (g0, g1, g2, g3) hE hL hp fun g U hpre w hw => wpMono (by
    intro e a w' hq
    cases e with
    | normal => obtain ⟨E', L', rfl, hH, g0, g1, g2, g3, h⟩ := hq; exact ⟨E', L', rfl, hH, (g0, g1, g2, g3), h⟩
    | _ => exact hq) (round g.1 g.2.1 g.2.2.1 g.2.2.2 U hpre w hw)
theorem WC.loopF5 {c : Code} {α β γ δ ε : Type} (VI : α → β → γ → δ → ε → List (Nat × Value)) (LI : α → β → γ → δ → ε → List Asrt) (pre : α → β → γ → δ → ε → Prop) (μ : α → β → γ → δ → ε → Nat) (g0 : α) (g1 : β) (g2 : γ) (g3 : δ) (g4 : ε) (hE : Agree E (VI g0 g1 g2 g3 g4)) (hL : Imp L (LI g0 g1 g2 g3 g4)) (hp : pre g0 g1 g2 g3 g4)
    (round : ∀ h0 h1 h2 h3 h4 U, pre h0 h1 h2 h3 h4 → WC P n w0 c (seqQ (fun E' L' => ∃ g0 g1 g2 g3 g4, Agree E' (VI g0 g1 g2 g3 g4) ∧ Imp L' (LI g0 g1 g2 g3 g4) ∧ pre g0 g1 g2 g3 g4 ∧ μ g0 g1 g2 g3 g4 < μ h0 h1 h2 h3 h4) Q) (sets U (VI h0 h1 h2 h3 h4)) (LI h0 h1 h2 h3 h4)) : WC P n w0 (.loop c) Q E L :=
  WC.loopF (γ := α × β × γ × δ × ε) (fun g => VI g.1 g.2.1 g.2.2.1 g.2.2.2.1 g.2.2.2.2) (fun g => LI g.1 g.2.1 g.2.2.1 g.2.2.2.1 g.2.2.2.2) (fun g => pre g.1 g.2.1 g.2.2.1 g.2.2.2.1 g.2.2.2.2) (fun g => μ g.1 g.2.1 g.2.2.1 g.2.2.2.1 g.2.2.2.2) (g0, g1, g2, g3, g4) hE hL hp fun g U hpre w hw => wpMono (by
    intro e a w' hq
    cases e with
    | normal => obtain ⟨E', L', rfl, hH, g0, g1, g2, g3, g4, h⟩ := hq; exact ⟨E', L', rfl, hH, (g0, g1, g2, g3, g4), h⟩
    | _ => exact hq) (round g.1 g.2.1 g.2.2.1 g.2.2.2.1 g.2.2.2.2 U hpre w hw)
end
end Go.Proofs.Ytnkbnponpknokaa
namespace Go.Proofs.Ytnkbnponpknokaa
set_option maxRecDepth 20000
open Go.RowKit
section
variable {P : Program} {n : Fr} {w0 : World} {E : Env} {L : List Asrt} {C : World → Prop} {o : Oper}
def plT (P : Program) (t : TypeId) (i : Nat) : Option (Nat × Nat) :=
  match P.underlying t with
  | some (.struct fs) => (fs[i]?).bind fun fd => (szT P fd.type).map fun s => (fd.offset, s)
  | _ => none
def allSz (P : Program) (t : TypeId) : Bool :=
  match P.underlying t with
  | some (.struct fs) => fs.toList.all fun fd => (szT P fd.type).isSome
  | _ => false
def spls (place : Nat → Option (Nat × Nat)) (cs : List Value) : List (Nat × List Value) → List Value
  | [] => cs
  | (i, v) :: r => match place i with | some (off, _) => spls place (spl cs off v) r | none => cs
theorem spl_len {xs vs : List Value} {k : Nat} (h : k + vs.length ≤ xs.length) : (spl xs k vs).length = xs.length := by
  unfold spl; simp; omega
theorem fill_spls {place : Nat → Option (Nat × Nat)} : ∀ (vs : List (Nat × Value)) (us : List (Nat × List Value)) (cs : List Value), (vs.map fun p => (p.1, p.2.cells.toList)) = us → (∀ p ∈ us, ∃ off sz, place p.1 = some (off, sz) ∧ p.2.length = sz ∧ off + sz ≤ cs.length) →
    Instr.fill place cs.toArray vs = some (spls place cs us).toArray
  | [], _, cs, hu, _ => by subst hu; rfl
  | (i, v) :: vs, _, cs, hu, h => by
    subst hu
    obtain ⟨off, sz, h1, h2, h3⟩ := h (i, v.cells.toList) (by simp)
    have h1' : place i = some (off, sz) := h1
    rw [fill_one (sz := sz) h1' (by simpa using h2) (by simpa using h3), List.map_cons, spls]
    simp only [h1']
    have e : cs.toArray.toList.take off ++ v.cells.toList ++ cs.toArray.toList.drop (off + sz) = spl cs off v.cells.toList := by
      unfold spl; rw [← h2]
    rw [e]
    have hl : (spl cs off v.cells.toList).length = cs.length := spl_len (by rw [show v.cells.toList.length = sz from h2]; exact h3)
    exact fill_spls vs _ _ rfl fun p hp => by obtain ⟨a, b, c1, c2, c3⟩ := h p (by simp only [List.map_cons, List.mem_cons]; exact .inr hp); exact ⟨a, b, c1, c2, by rw [hl]; exact c3⟩
theorem run_placesS {fs : Array Field} {w : World} (h : (fs.toList.all fun fd => (szT P fd.type).isSome) = true) :
    ∃ pl : Array (Nat × Nat), (fs.mapM (fun f => do pure (f.offset, ← sizeOf f.type) : Field → Sem (Nat × Nat))).run P w = .ok pl w ∧ ∀ i : Nat, pl[i]? = (fs[i]?).bind fun fd : Field => (szT P fd.type).map fun s => (fd.offset, s) := by
  have key : ∀ (l : List Field), (∀ f ∈ l, (szT P f.type).isSome = true) → (l.mapM (fun f => do pure (f.offset, ← sizeOf f.type) : Field → Sem (Nat × Nat))).run P w = .ok (l.map fun f => (f.offset, (szT P f.type).getD 0)) w := by
    intro l
    induction l with
    | nil => intro _; rfl
    | cons f l ih =>
      intro hl
      have hf := hl f (by simp)
      cases hs : szT P f.type with
      | none => rw [hs] at hf; cases hf
      | some s =>
        rw [List.mapM_cons]
        simp only [Sem.run_bind, run_size hs, Result.andThen_ok, Sem.run_pure, ih fun g hg => hl g (by simp [hg]), List.map_cons, hs, Option.getD_some]
  have hall := List.all_eq_true.1 h
  refine ⟨(fs.toList.map fun f => (f.offset, (szT P f.type).getD 0)).toArray, ?_, fun i => ?_⟩
  · rw [Array.mapM_eq_mapM_toList]
    rw [← bind_pure_comp]
    simp only [Sem.run_bind, key fs.toList hall, Result.andThen_ok, Sem.run_pure]
  · cases hi : fs[i]? with
    | none => simp at hi; simp [hi]
    | some fd =>
      have hm : fd ∈ fs.toList := by rw [Array.mem_toList_iff]; exact Array.mem_of_getElem? hi
      have h2 := hall fd hm
      have : fs.toList[i]? = some fd := by simpa using hi
      cases hs : szT P fd.type with
      | none => rw [hs] at h2; cases h2
      | some s => simp [hi, hs]
theorem g_buildS {t : TypeId} {parts : List (Nat × Operand)} {vs : List (Nat × Value)} {us : List (Nat × List Value)} {z : Value} {zs cs : List Value} (ho : o.op = .build t parts.toArray) (hf : allSz P t = true) (hz : (P.info? t).map (·.zero) = some (some z)) (hzs : z.cells = zs.toArray)
    (hp : EvI n E parts vs) (hu : (vs.map fun p => (p.1, p.2.cells.toList)) = us) (hok : ∀ p ∈ us, ∃ off sz, plT P t p.1 = some (off, sz) ∧ p.2.length = sz ∧ off + sz ≤ zs.length) (hr : spls (plT P t) zs us = cs) : Gives P n C o E (.agg cs.toArray) := fun w _ => by
  subst hr
  unfold allSz at hf
  cases hun : P.underlying t with
  | none => rw [hun] at hf; cases hf
  | some d =>
    rw [hun] at hf
    cases d with
    | struct fs =>
      obtain ⟨pl, hpl, hpl2⟩ := run_placesS (P := P) (w := w) hf
      have hplt : (fun j => pl[j]?) = plT P t := by
        funext j; rw [hpl2, plT, hun]
      cases hi : P.info? t with
      | none => rw [hi] at hz; cases hz
      | some i =>
        rw [hi] at hz
        simp at hz
        have hfill := fill_spls (place := fun j => pl[j]?) vs us zs hu fun p hp => by obtain ⟨a, b, c1, c2, c3⟩ := hok p hp; exact ⟨a, b, (congrFun hplt p.1).trans c1, c2, c3⟩
        have hm : (parts.toArray.map fun (i, x) => (i, (actOf n E).eval x)) = vs.toArray := by rw [List.map_toArray, hp.map]
        unfold execOp
        rw [← hplt]
        simp only [ho, hm, Instr.build, zeroValue, typeInfo, program, Sem.run_bind, Sem.run, Sem.run_pure, Result.andThen_ok, hi, hz, run_underlying hun, hpl, hzs, List.toList_toArray, hfill]
    | _ => cases hf
theorem g_buildArrS {t e : TypeId} {m sz : Nat} {parts : List (Nat × Operand)} {vs : List (Nat × Value)} {us : List (Nat × List Value)} {z : Value} {zs cs : List Value} (ho : o.op = .build t parts.toArray) (ht : P.underlying t = some (.array m e)) (he : szT P e = some sz) (hz : (P.info? t).map (·.zero) = some (some z)) (hzs : z.cells = zs.toArray)
    (hp : EvI n E parts vs) (hu : (vs.map fun p => (p.1, p.2.cells.toList)) = us) (hok : ∀ p ∈ us, p.2.length = sz ∧ p.1 * sz + sz ≤ zs.length) (hr : spls (fun i => some (i * sz, sz)) zs us = cs) : Gives P n C o E (.agg cs.toArray) := fun w _ => by
  subst hr
  cases hi : P.info? t with
  | none => rw [hi] at hz; cases hz
  | some i =>
    rw [hi] at hz
    simp at hz
    have hfill := fill_spls (place := fun j => some (j * sz, sz)) vs us zs hu fun p hp => ⟨_, _, rfl, hok p hp⟩
    have hm : (parts.toArray.map fun (i, x) => (i, (actOf n E).eval x)) = vs.toArray := by rw [List.map_toArray, hp.map]
    unfold execOp
    simp only [ho, hm, Instr.build, zeroValue, typeInfo, program, Sem.run_bind, Sem.run, Sem.run_pure, Result.andThen_ok, hi, hz, run_underlying ht, run_size he, hzs, List.toList_toArray, hfill]
theorem g_indexG {t e : TypeId} {x y : Operand} {cs : Array Value} {m j sz : Nat} {kk : IntKind} {z : Int} {us : List Value} (ho : o.op = .index t x y) (hx : Ev n E x (.agg cs)) (hy : Ev n E y (.int kk z)) (ht : P.underlying t = some (.array m e)) (h1 : aggT P e = true) (hs : szT P e = some sz)
    (hz : z = (j : Int)) (hj : j < m) (hle : j * sz + sz ≤ cs.size) (hu : (cs.toList.drop (j * sz)).take sz = us) : Gives P n C o E (.agg us.toArray) := fun w hw => by
  subst hu
  unfold Ev at hx hy; unfold execOp
  have e1 : (cs.extract (j * sz) (j * sz + sz)) = ((cs.toList.drop (j * sz)).take sz).toArray := by
    apply Array.ext'
    rw [Array.toList_extract]
    simp [List.extract]
  simp [ho, hx, hy, Instr.index, asIntOf, run_underlying ht, run_size hs, part, run_isAgg_agg h1, hz, hj, hle, e1]
end
section
variable {P : Program} {n : Fr} {w0 : World} {ops : Array Oper} {K : Post} {o : Oper} {rest : List Oper} {E : Env} {L : List Asrt}
theorem WL1.callVN {x : Operand} {args : List Operand} {ts : Array TypeId} {d : Option Tmp} {f : FuncId} {cap vals : List Value} {Φ : Value → List Asrt → Prop} (ho : o.op = .call { callee := .value x, args := args.toArray, argTypes := ts }) (hd : o.dst = d) (hx : Ev n E x (.func (.func f) #[] cap.toArray)) (hc : callable P f = true) (hv : Evs n E args vals)
    (h : ∀ w, H w0 L w → Calls P f (vals ++ cap).toArray w fun e w' => ∃ v M, e = .returned v ∧ H w M w' ∧ Φ v M) (k : ∀ v M, Φ v M → WL P n w0 ops K rest (E.put d v) (M ++ L)) : WL1 P n w0 ops K o rest E L :=
  WL1.callVF ho hd hx hc hv (Φ := fun v L' => ∃ M, L' = M ++ L ∧ Φ v M) (fun w hw => (h w hw).mono fun _ _ ⟨v, M, he, hM, hΦ⟩ => ⟨v, M ++ L, he, hw.join hM, M, rfl, hΦ⟩) fun v L' ⟨M, e, hΦ⟩ => by subst e; exact k v M hΦ
theorem subA_zero (g c sz : Nat) : subA (some ⟨g, 0, none⟩) c 0 sz = some ⟨g, 0, none⟩ := by
  unfold subA
  by_cases h : c = 0
  · rw [if_pos h]
  · rw [if_neg h, Nat.zero_mul]; rfl
end
end Go.Proofs.Ytnkbnponpknokaa
namespace Go.Proofs.Ytnkbnponpknokaa
set_option maxRecDepth 20000
open Go.RowKit
def ivs (l : List Int) : List Value := l.map (Value.int .i64)
theorem ivs_get {l : List Int} {k : Nat} (h : k < l.length) : (ivs l)[k * 1]? = some (iv (nth l k)) := by unfold ivs; exact get1 h
def ldv (ld : List Nat) : List Value := ld.map fun k : Nat => iv k
theorem ldv_get {ld : List Nat} {k : Nat} (h : k < ld.length) : (ldv ld)[k * 1]? = some (iv ((nth ld k : Nat) : Int)) := by unfold ldv; exact get1 (f := fun k : Nat => iv k) h
def bls (l : List Bool) : List Value := l.map Value.bool
theorem bls_get {l : List Bool} {k : Nat} (h : k < l.length) : (bls l)[k * 1]? = some (.bool (nth l k)) := by unfold bls; exact get1 h
theorem bls_len (l : List Bool) : (bls l).length = l.length := by simp [bls]
theorem elI : Elem Try.prog 25 3 (.int .i64 0) 1 8 := ⟨rfl, rfl, rfl, by omega⟩
theorem elBo : Elem Try.prog 41 4 (.bool false) 1 1 := ⟨rfl, rfl, rfl, by omega⟩
theorem ldv_snoc (l : List Nat) (i : Nat) : ldv l ++ [iv i] = ldv (l ++ [i]) := by unfold ldv; rw [List.map_append]; rfl
theorem bls_set (l : List Bool) (k : Nat) (x : Bool) : (bls l).set k (.bool x) = bls (l.set k x) := by unfold bls; rw [List.map_set]
def gn (n : Nat) (h : n < 256 := by omega) : G := ⟨n, h⟩
def lb (x : G) : Blk := ⟨[x, 0, 0, 0, 0, 0, 0, 0], rfl⟩
end Go.Proofs.Ytnkbnponpknokaa
namespace Go.Proofs.Ytnkbnponpknokaa
set_option maxRecDepth 20000
open Go.RowKit
attribute [local irreducible] Calls
theorem ldv_ivs (l : List Nat) : ldv l = ivs (l.map fun k : Nat => (k : Int)) := by unfold ldv ivs; rw [List.map_map]; rfl
def gfnd (p : Nat → Bool) : Nat → Option Nat
  | 0 => none
  | n + 1 => match gfnd p n with
    | some j => some j
    | none => if p n then some n else none
theorem gfnd_eq {p : Nat → Bool} : ∀ {n j : Nat}, j < n → p j = true → (∀ i, i < j → p i = false) → gfnd p n = some j
  | 0, _, h, _, _ => absurd h (by omega)
  | n + 1, j, h, hp, hq => by
    unfold gfnd
    by_cases e : j = n
    · have : gfnd p n = none := by
        have key : ∀ m, m ≤ j → gfnd p m = none := fun m => by
          induction m with
          | zero => intro _; rfl
          | succ m ih => intro hm; unfold gfnd; rw [ih (by omega), hq m (by omega)]; rfl
        rw [← e]; exact key j (Nat.le_refl _)
      rw [this, ← e, hp]; rfl
    · rw [gfnd_eq (by omega) hp hq]
theorem gfnd_all {p : Nat → Bool} : ∀ {n : Nat}, (∀ i, i < n → p i = false) → gfnd p n = none
  | 0, _ => rfl
  | n + 1, h => by unfold gfnd; rw [gfnd_all fun i hi => h i (by omega), h n (by omega)]; rfl
theorem gfnd_some {p : Nat → Bool} : ∀ {n j : Nat}, gfnd p n = some j → j < n ∧ p j = true
  | 0, _, h => by cases h
  | n + 1, j, h => by
    unfold gfnd at h
    cases e : gfnd p n with
    | some k => rw [e] at h; injection h with h; subst h; have := gfnd_some e; exact ⟨by omega, this.2⟩
    | none =>
      rw [e] at h
      by_cases hp : p n = true
      · rw [hp] at h; injection h with h; subst h; exact ⟨by omega, hp⟩
      · simp only [hp] at h; cases h
theorem gfnd_none {p : Nat → Bool} : ∀ {n : Nat}, gfnd p n = none → ∀ i, i < n → p i = false
  | 0, _, i, hi => absurd hi (by omega)
  | n + 1, h, i, hi => by
    unfold gfnd at h
    cases e : gfnd p n with
    | some k => rw [e] at h; cases h
    | none =>
      rw [e] at h
      by_cases hin : i = n
      · subst hin
        cases hp : p i with
        | false => rfl
        | true => rw [hp] at h; cases h
      · exact gfnd_none e i (by omega)
def gfz : Option Nat → Int
  | some k => k
  | none => -1
theorem gfz_ge (o : Option Nat) : decide (0 ≤ gfz o) = o.isSome := by
  cases o with
  | none => rfl
  | some k => exact decide_eq_true (Int.natCast_nonneg k)
def hasB (l : List Int) (x : Int) : Bool := (gfnd (fun k => decide (nth l k = x)) l.length).isSome
set_option maxHeartbeats 1000000 in
theorem index_e (v : Value) (l : List Int) (x : Int) (w : World) (hv : Sl w 1 v l.length (ivs l)) : Calls Try.prog 79 #[v, iv x] w fun e w' => e = .returned (iv (gfz (gfnd (fun k => decide (nth l k = x)) l.length))) ∧ Below w.heap.size w w' := by
  obtain ⟨A, cc, rfl, hcc, hm, hs⟩ := hv.open_
  unfold maxLen at hm
  refine calls_wc (args := [.slice A l.length cc, iv x]) [4] [] Try.func79 rfl Try.ntmps79 rfl rfl rfl rfl (H.refl w) ?_
  refine WC.seq fun K hK => ?_
  refine WC.region rfl ?_
  refine wG rfl rfl (g_assign rfl (.mk (v := .int _ _) rfl rfl)) ?_
  refine WL.nil ?_
  (refine hK _ _ ?_; clear hK)
  refine WC.seq fun K hK => ?_
  refine WC.seq fun K hK => ?_
  refine WC.region rfl ?_
  refine wG rfl rfl (g_move rfl (.mk (v := .slice _ _ _) rfl rfl)) ?_
  refine wG rfl rfl (g_len rfl (.mk rfl rfl) rfl) ?_
  refine wG rfl rfl (g_move rfl (.mk (v := .int _ _) rfl rfl)) ?_
  refine WL.nil ?_
  (refine hK _ _ ?_; clear hK)
  refine WC.block ?_
  refine WC.loopF (fun k : Nat => [(8, iv k), (7, iv l.length), (0, .slice A l.length cc), (1, iv x)]) (fun _ => []) (fun k => k ≤ l.length ∧ ∀ j, j < k → decide (nth l j = x) = false) (fun k => l.length - k) 0 (by repeat (first | exact trivial | refine ⟨rfl, ?_⟩)) (Imp.nil _) ⟨by omega, fun j hj => absurd hj (by omega)⟩ ?_
  rintro k U ⟨hk, hq⟩
  by_cases hlt : k < l.length
  · have hgv := ivs_get hlt
    by_cases he : nth l k = x
    · refine WC.seq fun K hK => ?_
      refine WC.region rfl ?_
      refine wG rfl rfl (g_lt rfl (.mk rfl rfl) (.mk rfl rfl) (decide_eq_true (by omega))) ?_
      refine WL.nil ?_
      (refine hK _ _ ?_; clear hK)
      refine WC.seq fun K hK => ?_
      refine WC.cond_true (.mk rfl rfl) ?_
      refine WC.skip ?_
      (refine hK _ _ ?_; clear hK)
      refine WC.seq fun K hK => ?_
      refine WC.block ?_
      refine WC.seq fun K hK => ?_
      refine WC.region rfl ?_
      refine wG rfl rfl (g_move rfl (.mk (v := .int _ _) rfl rfl)) ?_
      refine wG rfl rfl (g_assign rfl (.mk (v := .int _ _) rfl rfl)) ?_
      refine WL.nil ?_
      (refine hK _ _ ?_; clear hK)
      refine WC.seq fun K hK => ?_
      refine WC.region rfl ?_
      refine wG rfl rfl (g_move rfl (.mk (v := .int _ _) rfl rfl)) ?_
      refine wG rfl rfl (g_move rfl (.mk (v := .slice _ _ _) rfl rfl)) ?_
      refine wG rfl rfl (g_move rfl (.mk (v := .int _ _) rfl rfl)) ?_
      refine wG rfl rfl (g_indexAddr (sz := 1) rfl (.mk rfl rfl) (.mk rfl rfl) rfl rfl rfl (by omega) (fun _ _ => sl_some hs (by omega))) ?_
      refine wG rfl rfl (g_load rfl (.mk rfl rfl) rfl (rd_sl hs hgv)) ?_
      refine wG rfl rfl (g_eq rfl (.mk rfl rfl) (.mk rfl rfl) (decide_eq_true (by omega))) ?_
      refine WL.nil ?_
      (refine hK _ _ ?_; clear hK)
      refine WC.cond_true (.mk rfl rfl) ?_
      refine WC.seq fun K hK => ?_
      refine WC.region rfl ?_
      refine wG rfl rfl (g_move rfl (.mk (v := .int _ _) rfl rfl)) ?_
      refine wG rfl rfl (g_assign rfl (.mk (v := .int _ _) rfl rfl)) ?_
      refine WL.nil ?_
      (refine hK _ _ ?_; clear hK)
      refine WC.ret ?_
      exact fun w' hw' => ⟨by rw [gfnd_eq (p := fun k => decide (nth l k = x)) hlt (decide_eq_true he) hq]; rfl, hw'.1⟩
    · have he2 : ¬ x = nth l k := fun h => he h.symm
      refine WC.seq fun K hK => ?_
      refine WC.region rfl ?_
      refine wG rfl rfl (g_lt rfl (.mk rfl rfl) (.mk rfl rfl) (decide_eq_true (by omega))) ?_
      refine WL.nil ?_
      (refine hK _ _ ?_; clear hK)
      refine WC.seq fun K hK => ?_
      refine WC.cond_true (.mk rfl rfl) ?_
      refine WC.skip ?_
      (refine hK _ _ ?_; clear hK)
      refine WC.seq fun K hK => ?_
      refine WC.block ?_
      refine WC.seq fun K hK => ?_
      refine WC.region rfl ?_
      refine wG rfl rfl (g_move rfl (.mk (v := .int _ _) rfl rfl)) ?_
      refine wG rfl rfl (g_assign rfl (.mk (v := .int _ _) rfl rfl)) ?_
      refine WL.nil ?_
      (refine hK _ _ ?_; clear hK)
      refine WC.seq fun K hK => ?_
      refine WC.region rfl ?_
      refine wG rfl rfl (g_move rfl (.mk (v := .int _ _) rfl rfl)) ?_
      refine wG rfl rfl (g_move rfl (.mk (v := .slice _ _ _) rfl rfl)) ?_
      refine wG rfl rfl (g_move rfl (.mk (v := .int _ _) rfl rfl)) ?_
      refine wG rfl rfl (g_indexAddr (sz := 1) rfl (.mk rfl rfl) (.mk rfl rfl) rfl rfl rfl (by omega) (fun _ _ => sl_some hs (by omega))) ?_
      refine wG rfl rfl (g_load rfl (.mk rfl rfl) rfl (rd_sl hs hgv)) ?_
      refine wG rfl rfl (g_eq rfl (.mk rfl rfl) (.mk rfl rfl) (decide_eq_false (by omega))) ?_
      refine WL.nil ?_
      (refine hK _ _ ?_; clear hK)
      refine WC.cond_false (.mk rfl rfl) ?_
      refine WC.skip ?_
      (refine hK _ _ ?_; clear hK)
      refine WC.region rfl ?_
      refine wG rfl rfl (g_add rfl (.mk rfl rfl) (.mk rfl rfl) (IntWalk.i64_in _ (by omega))) ?_
      refine wG rfl rfl (g_move rfl (.mk (v := .int _ _) rfl rfl)) ?_
      refine WL.nil ?_
      refine ⟨k + 1, (by repeat (first | exact trivial | refine ⟨rfl, ?_⟩)), .refl _, ⟨by omega, fun j hj => ?_⟩, by omega⟩
      by_cases e : j = k
      · rw [e]; exact decide_eq_false he
      · exact hq j (by omega)
  · obtain rfl : k = l.length := by omega
    refine WC.seq fun K hK => ?_
    refine WC.region rfl ?_
    refine wG rfl rfl (g_lt rfl (.mk rfl rfl) (.mk rfl rfl) (decide_eq_false (by omega))) ?_
    refine WL.nil ?_
    (refine hK _ _ ?_; clear hK)
    refine WC.seq fun K hK => ?_
    refine WC.cond_false (.mk rfl rfl) ?_
    refine WC.exit ?_
    (clear hK; refine hK _ _ ?_; clear hK)
    refine WC.seq fun K hK => ?_
    refine WC.region rfl ?_
    refine wG rfl rfl (g_assign rfl (.mk (v := .int _ _) rfl rfl)) ?_
    refine WL.nil ?_
    (refine hK _ _ ?_; clear hK)
    refine WC.ret ?_
    exact fun w' hw' => ⟨by rw [gfnd_all hq]; rfl, hw'.1⟩
set_option maxHeartbeats 1000000 in
theorem contains_e (v : Value) (l : List Int) (x : Int) (w : World) (hv : Sl w 1 v l.length (ivs l)) : Calls Try.prog 65 #[v, iv x] w fun e w' => e = .returned (.bool (hasB l x)) ∧ Below w.heap.size w w' := by
  have hix := fun w' hb => index_e v l x w' (hv.below (w' := w') hb)
  obtain ⟨z, hz⟩ : ∃ z, z = gfz (gfnd (fun k => decide (nth l k = x)) l.length) := ⟨_, rfl⟩
  have hb : decide (0 ≤ z) = hasB l x := by rw [hz]; exact gfz_ge _
  rw [← hz] at hix
  obtain ⟨A, cc, rfl, hcc, hm, hs⟩ := hv.open_
  refine calls_wc (args := [.slice A l.length cc, iv x]) [4] [] Try.func65 rfl Try.ntmps65 rfl rfl rfl rfl (H.refl w) ?_
  refine WC.seq fun K hK => ?_
  refine WC.region rfl ?_
  refine wG rfl rfl (g_assign rfl (.mk (v := .bool _) rfl rfl)) ?_
  refine WL.nil ?_
  (refine hK _ _ ?_; clear hK)
  refine WC.seq fun K hK => ?_
  refine WC.region rfl ?_
  refine wG rfl rfl (g_move rfl (.mk (v := .slice _ _ _) rfl rfl)) ?_
  refine wG rfl rfl (g_move rfl (.mk (v := .int _ _) rfl rfl)) ?_
  refine WL.want rfl (WL1.callP rfl rfl rfl (.cons (.mk (v := .slice _ _ _) rfl rfl) (.cons (.mk (v := .int _ _) rfl rfl) .nil)) (fun w hw => hix w hw.1) ?_)
  refine wG rfl rfl (g_ge rfl (.mk rfl rfl) (.mk rfl rfl) hb) ?_
  refine wG rfl rfl (g_assign rfl (.mk (v := .bool _) rfl rfl)) ?_
  refine WL.nil ?_
  (refine hK _ _ ?_; clear hK)
  refine WC.ret ?_
  exact fun w' hw' => ⟨rfl, hw'.1⟩
set_option maxHeartbeats 1000000 in
theorem has_e (v : Value) (l : List Int) (x : Int) (w : World) (hv : Sl w 1 v l.length (ivs l)) : Calls Try.prog 47 #[v, iv x] w fun e w' => e = .returned (.bool (hasB l x)) ∧ Below w.heap.size w w' := by
  obtain ⟨A, cc, rfl, hcc, hm, hs⟩ := hv.open_
  unfold maxLen at hm
  refine calls_wc (args := [.slice A l.length cc, iv x]) [4] [] Try.func47 rfl Try.ntmps47 rfl rfl rfl rfl (H.refl w) ?_
  refine WC.seq fun K hK => ?_
  refine WC.region rfl ?_
  refine wG rfl rfl (g_assign rfl (.mk (v := .bool _) rfl rfl)) ?_
  refine WL.nil ?_
  (refine hK _ _ ?_; clear hK)
  refine WC.seq fun K hK => ?_
  refine WC.seq fun K hK => ?_
  refine WC.region rfl ?_
  refine wG rfl rfl (g_assign rfl (.mk (v := .int _ _) rfl rfl)) ?_
  refine WL.nil ?_
  (refine hK _ _ ?_; clear hK)
  refine WC.block ?_
  refine WC.loopF (fun k : Nat => [(5, iv k), (0, .slice A l.length cc), (1, iv x)]) (fun _ => []) (fun k => k ≤ l.length ∧ ∀ j, j < k → decide (nth l j = x) = false) (fun k => l.length - k) 0 (by repeat (first | exact trivial | refine ⟨rfl, ?_⟩)) (Imp.nil _) ⟨by omega, fun j hj => absurd hj (by omega)⟩ ?_
  rintro k U ⟨hk, hq⟩
  by_cases hlt : k < l.length
  · have hgv := ivs_get hlt
    by_cases he : nth l k = x
    · refine WC.seq fun K hK => ?_
      refine WC.seq fun K hK => ?_
      refine WC.region rfl ?_
      refine wG rfl rfl (g_move rfl (.mk (v := .int _ _) rfl rfl)) ?_
      refine wG rfl rfl (g_move rfl (.mk (v := .slice _ _ _) rfl rfl)) ?_
      refine wG rfl rfl (g_len rfl (.mk rfl rfl) rfl) ?_
      refine wG rfl rfl (g_lt rfl (.mk rfl rfl) (.mk rfl rfl) (decide_eq_true (by omega))) ?_
      refine WL.nil ?_
      (refine hK _ _ ?_; clear hK)
      refine WC.cond_true (.mk rfl rfl) ?_
      refine WC.skip ?_
      (refine hK _ _ ?_; clear hK)
      refine WC.seq fun K hK => ?_
      refine WC.block ?_
      refine WC.seq fun K hK => ?_
      refine WC.region rfl ?_
      refine wG rfl rfl (g_move rfl (.mk (v := .slice _ _ _) rfl rfl)) ?_
      refine wG rfl rfl (g_move rfl (.mk (v := .int _ _) rfl rfl)) ?_
      refine wG rfl rfl (g_indexAddr (sz := 1) rfl (.mk rfl rfl) (.mk rfl rfl) rfl rfl rfl (by omega) (fun _ _ => sl_some hs (by omega))) ?_
      refine wG rfl rfl (g_load rfl (.mk rfl rfl) rfl (rd_sl hs hgv)) ?_
      refine wG rfl rfl (g_move rfl (.mk (v := .int _ _) rfl rfl)) ?_
      refine wG rfl rfl (g_eq rfl (.mk rfl rfl) (.mk rfl rfl) (decide_eq_true (by omega))) ?_
      refine WL.nil ?_
      (refine hK _ _ ?_; clear hK)
      refine WC.cond_true (.mk rfl rfl) ?_
      refine WC.seq fun K hK => ?_
      refine WC.region rfl ?_
      refine wG rfl rfl (g_assign rfl (.mk (v := .bool _) rfl rfl)) ?_
      refine WL.nil ?_
      (refine hK _ _ ?_; clear hK)
      refine WC.ret ?_
      exact fun w' hw' => ⟨by rw [hasB, gfnd_eq (p := fun k => decide (nth l k = x)) hlt (decide_eq_true he) hq]; rfl, hw'.1⟩
    · refine WC.seq fun K hK => ?_
      refine WC.seq fun K hK => ?_
      refine WC.region rfl ?_
      refine wG rfl rfl (g_move rfl (.mk (v := .int _ _) rfl rfl)) ?_
      refine wG rfl rfl (g_move rfl (.mk (v := .slice _ _ _) rfl rfl)) ?_
      refine wG rfl rfl (g_len rfl (.mk rfl rfl) rfl) ?_
      refine wG rfl rfl (g_lt rfl (.mk rfl rfl) (.mk rfl rfl) (decide_eq_true (by omega))) ?_
      refine WL.nil ?_
      (refine hK _ _ ?_; clear hK)
      refine WC.cond_true (.mk rfl rfl) ?_
      refine WC.skip ?_
      (refine hK _ _ ?_; clear hK)
      refine WC.seq fun K hK => ?_
      refine WC.block ?_
      refine WC.seq fun K hK => ?_
      refine WC.region rfl ?_
      refine wG rfl rfl (g_move rfl (.mk (v := .slice _ _ _) rfl rfl)) ?_
      refine wG rfl rfl (g_move rfl (.mk (v := .int _ _) rfl rfl)) ?_
      refine wG rfl rfl (g_indexAddr (sz := 1) rfl (.mk rfl rfl) (.mk rfl rfl) rfl rfl rfl (by omega) (fun _ _ => sl_some hs (by omega))) ?_
      refine wG rfl rfl (g_load rfl (.mk rfl rfl) rfl (rd_sl hs hgv)) ?_
      refine wG rfl rfl (g_move rfl (.mk (v := .int _ _) rfl rfl)) ?_
      refine wG rfl rfl (g_eq rfl (.mk rfl rfl) (.mk rfl rfl) (decide_eq_false (by omega))) ?_
      refine WL.nil ?_
      (refine hK _ _ ?_; clear hK)
      refine WC.cond_false (.mk rfl rfl) ?_
      refine WC.skip ?_
      (refine hK _ _ ?_; clear hK)
      refine WC.region rfl ?_
      refine wG rfl rfl (g_move rfl (.mk (v := .int _ _) rfl rfl)) ?_
      refine wG rfl rfl (g_add rfl (.mk rfl rfl) (.mk rfl rfl) (IntWalk.i64_in _ (by omega))) ?_
      refine wG rfl rfl (g_assign rfl (.mk (v := .int _ _) rfl rfl)) ?_
      refine WL.nil ?_
      refine ⟨k + 1, (by repeat (first | exact trivial | refine ⟨rfl, ?_⟩)), .refl _, ⟨by omega, fun j hj => ?_⟩, by omega⟩
      by_cases e : j = k
      · rw [e]; exact decide_eq_false he
      · exact hq j (by omega)
  · obtain rfl : k = l.length := by omega
    refine WC.seq fun K hK => ?_
    refine WC.seq fun K hK => ?_
    refine WC.region rfl ?_
    refine wG rfl rfl (g_move rfl (.mk (v := .int _ _) rfl rfl)) ?_
    refine wG rfl rfl (g_move rfl (.mk (v := .slice _ _ _) rfl rfl)) ?_
    refine wG rfl rfl (g_len rfl (.mk rfl rfl) rfl) ?_
    refine wG rfl rfl (g_lt rfl (.mk rfl rfl) (.mk rfl rfl) (decide_eq_false (by omega))) ?_
    refine WL.nil ?_
    (refine hK _ _ ?_; clear hK)
    refine WC.cond_false (.mk rfl rfl) ?_
    refine WC.exit ?_
    (clear hK; refine hK _ _ ?_; clear hK)
    refine WC.seq fun K hK => ?_
    refine WC.region rfl ?_
    refine wG rfl rfl (g_assign rfl (.mk (v := .bool _) rfl rfl)) ?_
    refine WL.nil ?_
    (refine hK _ _ ?_; clear hK)
    refine WC.ret ?_
    exact fun w' hw' => ⟨by rw [hasB, gfnd_all hq]; rfl, hw'.1⟩
structure Pred (w : World) (f : FuncId) (caps : List Value) (p : Nat → Bool) (n : Nat) : Prop where
  ok : callable Try.prog f = true
  run : ∀ i, i < n → ∀ w', Below w.heap.size w w' → Calls Try.prog f ([iv (i : Nat)] ++ caps).toArray w' fun e w2 => e = .returned (.bool (p i)) ∧ Below w'.heap.size w' w2
def numL (p : Nat → Bool) : Nat → List Nat
  | 0 => []
  | i + 1 => if p i then numL p i ++ [i] else numL p i
theorem numL_le (p : Nat → Bool) : ∀ n, (numL p n).length ≤ n
  | 0 => Nat.le_refl _
  | n + 1 => by unfold numL; have := numL_le p n; split <;> simp <;> omega
set_option maxHeartbeats 1000000 in
theorem numbers_n (f : FuncId) (caps : List Value) (p : Nat → Bool) (n : Nat) (w : World) (hp : Pred w f caps p n) (hn : n ≤ 1000) :
    Calls Try.prog 44 #[iv n, .func (.func f) #[] caps.toArray] w fun e w' => ∃ v' M, e = .returned v' ∧ H w M w' ∧ ∃ A c, v' = .slice A (numL p n).length c ∧ M = [vec A (numL p n).length c 3 1 (ldv (numL p n))] := by
  have hok := hp.ok
  refine calls_wc (args := [iv n, .func (.func f) #[] caps.toArray]) [4] [] Try.func44 rfl Try.ntmps44 rfl rfl rfl rfl (H.refl w) ?_
  refine WC.seq fun K hK => ?_
  refine WC.region rfl ?_
  refine wG rfl rfl (g_assign rfl (.mk (v := .slice _ _ _) rfl rfl)) ?_
  refine WL.nil ?_
  (refine hK _ _ ?_; clear hK)
  refine WC.seq fun K hK => ?_
  refine WC.region rfl ?_
  refine wG rfl rfl (g_assign rfl (.mk (v := .slice _ _ _) rfl rfl)) ?_
  refine WL.nil ?_
  (refine hK _ _ ?_; clear hK)
  refine WC.seq fun K hK => ?_
  refine WC.seq fun K hK => ?_
  refine WC.region rfl ?_
  refine wG rfl rfl (g_move rfl (.mk (v := .int _ _) rfl rfl)) ?_
  refine wG rfl rfl (g_move rfl (.mk (v := .int _ _) rfl rfl)) ?_
  refine WL.nil ?_
  (refine hK _ _ ?_; clear hK)
  refine WC.block ?_
  refine WC.nilvec 3 1 ?_
  refine WC.loopF3 (fun (i : Nat) (F : Option Addr) (fc : Nat) => [(8, iv i), (5, .slice F (numL p i).length fc), (7, iv n), (1, .func (.func f) #[] caps.toArray)]) (fun i F fc => [vec F (numL p i).length fc 3 1 (ldv (numL p i))]) (fun i _ _ => i ≤ n) (fun i _ _ => n - i) 0 none 0 (by repeat (first | exact trivial | refine ⟨rfl, ?_⟩)) (.refl _) (by omega) ?_
  intro i F fc U hi
  have hle := numL_le p i
  obtain ⟨g, hg⟩ : ∃ g, g = numL p i := ⟨_, rfl⟩
  rw [← hg] at hle ⊢
  by_cases hlt : i < n
  · have hr := hp.run i hlt
    cases hpi : p i with
    | true =>
      rw [hpi] at hr
      have hst : numL p (i + 1) = g ++ [i] := by rw [numL, hpi, ← hg]; rfl
      have hl1 : (g ++ [i]).length = g.length + 1 := by rw [List.length_append]; rfl
      refine WC.seq fun K hK => ?_
      refine WC.region rfl ?_
      refine wG rfl rfl (g_lt rfl (.mk rfl rfl) (.mk rfl rfl) (decide_eq_true (by omega))) ?_
      refine WL.nil ?_
      (refine hK _ _ ?_; clear hK)
      refine WC.seq fun K hK => ?_
      refine WC.cond_true (.mk rfl rfl) ?_
      refine WC.skip ?_
      (refine hK _ _ ?_; clear hK)
      refine WC.seq fun K hK => ?_
      refine WC.block ?_
      refine WC.seq fun K hK => ?_
      refine WC.region rfl ?_
      refine wG rfl rfl (g_move rfl (.mk (v := .int _ _) rfl rfl)) ?_
      refine wG rfl rfl (g_assign rfl (.mk (v := .int _ _) rfl rfl)) ?_
      refine WL.nil ?_
      (refine hK _ _ ?_; clear hK)
      refine WC.seq fun K hK => ?_
      refine WC.region rfl ?_
      refine wG rfl rfl (g_move rfl (.mk (v := .func _ _ _) rfl rfl)) ?_
      refine wG rfl rfl (g_move rfl (.mk (v := .int _ _) rfl rfl)) ?_
      refine WL.want rfl (WL1.callVP rfl rfl (.mk rfl rfl) (by first | assumption | rfl) (.cons (.mk (v := .int _ _) rfl rfl) .nil) (fun w hw => hr w hw.1) ?_)
      refine WL.nil ?_
      (refine hK _ _ ?_; clear hK)
      refine WC.cond_true (.mk rfl rfl) ?_
      refine WC.region rfl ?_
      refine wG rfl rfl (g_move rfl (.mk (v := .slice _ _ _) rfl rfl)) ?_
      refine wG rfl rfl (g_move rfl (.mk (v := .int _ _) rfl rfl)) ?_
      refine WL.want rfl (WL1.lit (cs := [_]) elI rfl rfl rfl (.cons (.mk (v := .int _ _) rfl rfl) .nil) rfl (by first | (simp [Value.cells]; done) | fail) rfl rfl (fun b16 => ?_))
      refine WL.want rfl (WL1.append elI rfl rfl (.mk rfl rfl) (.mk rfl rfl) (.tail (.head)) (fun w hw => Sl.of_vec hw (.head _)) (all1 rfl) (by unfold maxLen; omega) (by omega) (fun A17 c17 => ?_))
      refine wG rfl rfl (g_assign rfl (.mk (v := .slice _ _ _) rfl rfl)) ?_
      refine WL.nil ?_
      (refine hK _ _ ?_; clear hK)
      refine WC.region rfl ?_
      refine wG rfl rfl (g_add rfl (.mk rfl rfl) (.mk rfl rfl) (IntWalk.i64_in _ (by omega))) ?_
      refine wG rfl rfl (g_move rfl (.mk (v := .int _ _) rfl rfl)) ?_
      refine WL.nil ?_
      exact ⟨i + 1, A17, c17, by rw [hst, hl1]; exact (by repeat (first | exact trivial | refine ⟨rfl, ?_⟩)), by rw [hst, hl1, ← ldv_snoc]; exact Imp.pick (by repeat (first | exact .head | apply Take.tail)) (Imp.nil _), by omega, by omega⟩
    | false =>
      rw [hpi] at hr
      have hst : numL p (i + 1) = g := by rw [numL, hpi, ← hg]; rfl
      refine WC.seq fun K hK => ?_
      refine WC.region rfl ?_
      refine wG rfl rfl (g_lt rfl (.mk rfl rfl) (.mk rfl rfl) (decide_eq_true (by omega))) ?_
      refine WL.nil ?_
      (refine hK _ _ ?_; clear hK)
      refine WC.seq fun K hK => ?_
      refine WC.cond_true (.mk rfl rfl) ?_
      refine WC.skip ?_
      (refine hK _ _ ?_; clear hK)
      refine WC.seq fun K hK => ?_
      refine WC.block ?_
      refine WC.seq fun K hK => ?_
      refine WC.region rfl ?_
      refine wG rfl rfl (g_move rfl (.mk (v := .int _ _) rfl rfl)) ?_
      refine wG rfl rfl (g_assign rfl (.mk (v := .int _ _) rfl rfl)) ?_
      refine WL.nil ?_
      (refine hK _ _ ?_; clear hK)
      refine WC.seq fun K hK => ?_
      refine WC.region rfl ?_
      refine wG rfl rfl (g_move rfl (.mk (v := .func _ _ _) rfl rfl)) ?_
      refine wG rfl rfl (g_move rfl (.mk (v := .int _ _) rfl rfl)) ?_
      refine WL.want rfl (WL1.callVP rfl rfl (.mk rfl rfl) (by first | assumption | rfl) (.cons (.mk (v := .int _ _) rfl rfl) .nil) (fun w hw => hr w hw.1) ?_)
      refine WL.nil ?_
      (refine hK _ _ ?_; clear hK)
      refine WC.cond_false (.mk rfl rfl) ?_
      refine WC.skip ?_
      (refine hK _ _ ?_; clear hK)
      refine WC.region rfl ?_
      refine wG rfl rfl (g_add rfl (.mk rfl rfl) (.mk rfl rfl) (IntWalk.i64_in _ (by omega))) ?_
      refine wG rfl rfl (g_move rfl (.mk (v := .int _ _) rfl rfl)) ?_
      refine WL.nil ?_
      exact ⟨i + 1, F, fc, by rw [hst]; exact (by repeat (first | exact trivial | refine ⟨rfl, ?_⟩)), by rw [hst]; exact .refl _, by omega, by omega⟩
  · obtain rfl : i = n := by omega
    refine WC.seq fun K hK => ?_
    refine WC.region rfl ?_
    refine wG rfl rfl (g_lt rfl (.mk rfl rfl) (.mk rfl rfl) (decide_eq_false (by omega))) ?_
    refine WL.nil ?_
    (refine hK _ _ ?_; clear hK)
    refine WC.seq fun K hK => ?_
    refine WC.cond_false (.mk rfl rfl) ?_
    refine WC.exit ?_
    (clear hK; refine hK _ _ ?_; clear hK)
    refine WC.seq fun K hK => ?_
    refine WC.region rfl ?_
    refine wG rfl rfl (g_move rfl (.mk (v := .slice _ _ _) rfl rfl)) ?_
    refine wG rfl rfl (g_assign rfl (.mk (v := .slice _ _ _) rfl rfl)) ?_
    refine WL.nil ?_
    (refine hK _ _ ?_; clear hK)
    refine WC.ret ?_
    exact fun w' hw' => ⟨_, _, rfl, hw', F, fc, by rw [← hg]; rfl, by rw [← hg]⟩
end Go.Proofs.Ytnkbnponpknokaa
namespace Go.Proofs.Ytnkbnponpknokaa
set_option maxRecDepth 20000
open Go.RowKit
attribute [local irreducible] Calls
theorem vec_at {w0 w : World} {L : List Asrt} {A : Option Addr} {m c sz : Nat} {e : TypeId} {xs : List Value} (hw : H w0 L w) (hm : vec A m c e sz xs ∈ L) (h0 : 0 < m) : ∃ g, A = some ⟨g, 0, none⟩ := by
  rcases ((hw.2.in_ _ hm).1 : w.ownsRow 0 e sz (.slice A m c) m xs).2 with ⟨_, h⟩ | ⟨g, _, _, h, _⟩
  · omega
  · injection h with h; exact ⟨g, h⟩
theorem Imp.prefix_ {A : Option Addr} {m c sz k : Nat} {e : TypeId} {xs : List Value} (L : List Asrt) (hk : k ≤ m) : Imp (vec A m c e sz xs :: L) (vec A k c e sz (xs.take (k * sz)) :: L) where
  foot D hD b hb := by
    rcases List.mem_cons.1 hD with rfl | hD
    · exact ⟨_, .head _, hb⟩
    · exact ⟨D, .tail _ hD, hb⟩
  sep := fun ⟨h1, h2, h3, h4⟩ => by
    refine ⟨?_, h2, h3, h4⟩
    obtain ⟨hl, h⟩ := (h1 : World.ownsRow _ 0 e sz (.slice A m c) m xs)
    have hmul : k * sz ≤ m * sz := Nat.mul_le_mul_right sz hk
    refine ⟨by rw [List.length_take]; omega, ?_⟩
    rcases h with ⟨hv, h0⟩ | ⟨g, cap, cur, hv, q1, q2, q3, q4, q5, q6⟩
    · have hk0 : k = 0 := by omega
      subst hk0
      injection hv with e1 e2 e3
      exact .inl ⟨by rw [e1, e3], rfl⟩
    · injection hv with e1 e2 e3
      refine .inr ⟨g, cap, cur, by rw [e1, e3], q1, q2, by omega, q4, q5, ?_⟩
      rw [← q6, List.take_take, Nat.min_eq_left hmul]
set_option maxHeartbeats 1000000 in
theorem valid_i (z : Int) (w : World) : Calls Try.prog 41 #[iv z] w fun e w' => e = .returned (.bool (decide (4 ≤ z ∧ z ≤ 16))) ∧ Below w.heap.size w w' := by
  by_cases h1 : 3 < z
  · by_cases h2 : z ≤ 16
    · refine calls_wc (args := [iv z]) [2] [] Try.func41 rfl Try.ntmps41 rfl rfl rfl rfl (H.refl _) ?_
      refine WC.seq fun K hK => ?_
      refine WC.region rfl ?_
      refine wG rfl rfl (g_assign rfl (.mk (v := .bool _) rfl rfl)) ?_
      refine WL.nil ?_
      (refine hK _ _ ?_; clear hK)
      refine WC.seq fun K hK => ?_
      refine WC.region rfl ?_
      refine wG rfl rfl (g_move rfl (.mk (v := .int _ _) rfl rfl)) ?_
      refine wG rfl rfl (g_gt rfl (.mk rfl rfl) (.mk rfl rfl) (decide_eq_true (by omega))) ?_
      refine wG rfl rfl (g_move rfl (.mk (v := .bool _) rfl rfl)) ?_
      refine WL.wantG rfl rfl rfl rfl (WL1.give rfl (g_move rfl (.mk (v := .int _ _) rfl rfl)) ?_)
      refine WL.wantG rfl rfl rfl rfl (WL1.give rfl (g_le rfl (.mk rfl rfl) (.mk rfl rfl) (decide_eq_true (by omega))) ?_)
      refine wG rfl rfl (g_pickT rfl (.mk rfl rfl) (.mk (v := .bool _) rfl rfl)) ?_
      refine wG rfl rfl (g_assign rfl (.mk (v := .bool _) rfl rfl)) ?_
      refine WL.nil ?_
      (refine hK _ _ ?_; clear hK)
      refine WC.ret ?_
      exact fun w' hw' => ⟨by rw [decide_eq_true (show 4 ≤ z ∧ z ≤ 16 by omega)]; rfl, hw'.1⟩
    · refine calls_wc (args := [iv z]) [2] [] Try.func41 rfl Try.ntmps41 rfl rfl rfl rfl (H.refl _) ?_
      refine WC.seq fun K hK => ?_
      refine WC.region rfl ?_
      refine wG rfl rfl (g_assign rfl (.mk (v := .bool _) rfl rfl)) ?_
      refine WL.nil ?_
      (refine hK _ _ ?_; clear hK)
      refine WC.seq fun K hK => ?_
      refine WC.region rfl ?_
      refine wG rfl rfl (g_move rfl (.mk (v := .int _ _) rfl rfl)) ?_
      refine wG rfl rfl (g_gt rfl (.mk rfl rfl) (.mk rfl rfl) (decide_eq_true (by omega))) ?_
      refine wG rfl rfl (g_move rfl (.mk (v := .bool _) rfl rfl)) ?_
      refine WL.wantG rfl rfl rfl rfl (WL1.give rfl (g_move rfl (.mk (v := .int _ _) rfl rfl)) ?_)
      refine WL.wantG rfl rfl rfl rfl (WL1.give rfl (g_le rfl (.mk rfl rfl) (.mk rfl rfl) (decide_eq_false (by omega))) ?_)
      refine wG rfl rfl (g_pickT rfl (.mk rfl rfl) (.mk (v := .bool _) rfl rfl)) ?_
      refine wG rfl rfl (g_assign rfl (.mk (v := .bool _) rfl rfl)) ?_
      refine WL.nil ?_
      (refine hK _ _ ?_; clear hK)
      refine WC.ret ?_
      exact fun w' hw' => ⟨by rw [decide_eq_false fun h => h2 h.2]; rfl, hw'.1⟩
  · refine calls_wc (args := [iv z]) [2] [] Try.func41 rfl Try.ntmps41 rfl rfl rfl rfl (H.refl _) ?_
    refine WC.seq fun K hK => ?_
    refine WC.region rfl ?_
    refine wG rfl rfl (g_assign rfl (.mk (v := .bool _) rfl rfl)) ?_
    refine WL.nil ?_
    (refine hK _ _ ?_; clear hK)
    refine WC.seq fun K hK => ?_
    refine WC.region rfl ?_
    refine wG rfl rfl (g_move rfl (.mk (v := .int _ _) rfl rfl)) ?_
    refine wG rfl rfl (g_gt rfl (.mk rfl rfl) (.mk rfl rfl) (decide_eq_false (by omega))) ?_
    refine wG rfl rfl (g_move rfl (.mk (v := .bool _) rfl rfl)) ?_
    refine WL.skipG rfl rfl rfl rfl rfl rfl ?_
    refine WL.skipG rfl rfl rfl rfl rfl rfl ?_
    refine wG rfl rfl (g_pickF rfl (.mk rfl rfl) (.mk (v := .bool _) rfl rfl)) ?_
    refine wG rfl rfl (g_assign rfl (.mk (v := .bool _) rfl rfl)) ?_
    refine WL.nil ?_
    (refine hK _ _ ?_; clear hK)
    refine WC.ret ?_
    exact fun w' hw' => ⟨by rw [decide_eq_false fun h => h1 (by omega)]; rfl, hw'.1⟩
set_option maxHeartbeats 1000000 in
theorem wide_i (z : Int) (w : World) : Calls Try.prog 38 #[iv z] w fun e w' => e = .returned (.bool (decide (4 ≤ z ∧ z ≤ 16))) ∧ Below w.heap.size w w' := by
  by_cases h1 : 4 ≤ z
  · by_cases h2 : z ≤ 16
    · refine calls_wc (args := [iv z]) [2] [] Try.func38 rfl Try.ntmps38 rfl rfl rfl rfl (H.refl _) ?_
      refine WC.seq fun K hK => ?_
      refine WC.region rfl ?_
      refine wG rfl rfl (g_assign rfl (.mk (v := .bool _) rfl rfl)) ?_
      refine WL.nil ?_
      (refine hK _ _ ?_; clear hK)
      refine WC.seq fun K hK => ?_
      refine WC.region rfl ?_
      refine wG rfl rfl (g_move rfl (.mk (v := .int _ _) rfl rfl)) ?_
      refine wG rfl rfl (g_ge rfl (.mk rfl rfl) (.mk rfl rfl) (decide_eq_true (by omega))) ?_
      refine wG rfl rfl (g_move rfl (.mk (v := .bool _) rfl rfl)) ?_
      refine WL.wantG rfl rfl rfl rfl (WL1.give rfl (g_move rfl (.mk (v := .int _ _) rfl rfl)) ?_)
      refine WL.wantG rfl rfl rfl rfl (WL1.give rfl (g_le rfl (.mk rfl rfl) (.mk rfl rfl) (decide_eq_true (by omega))) ?_)
      refine wG rfl rfl (g_pickT rfl (.mk rfl rfl) (.mk (v := .bool _) rfl rfl)) ?_
      refine wG rfl rfl (g_assign rfl (.mk (v := .bool _) rfl rfl)) ?_
      refine WL.nil ?_
      (refine hK _ _ ?_; clear hK)
      refine WC.ret ?_
      exact fun w' hw' => ⟨by rw [decide_eq_true ⟨h1, h2⟩]; rfl, hw'.1⟩
    · refine calls_wc (args := [iv z]) [2] [] Try.func38 rfl Try.ntmps38 rfl rfl rfl rfl (H.refl _) ?_
      refine WC.seq fun K hK => ?_
      refine WC.region rfl ?_
      refine wG rfl rfl (g_assign rfl (.mk (v := .bool _) rfl rfl)) ?_
      refine WL.nil ?_
      (refine hK _ _ ?_; clear hK)
      refine WC.seq fun K hK => ?_
      refine WC.region rfl ?_
      refine wG rfl rfl (g_move rfl (.mk (v := .int _ _) rfl rfl)) ?_
      refine wG rfl rfl (g_ge rfl (.mk rfl rfl) (.mk rfl rfl) (decide_eq_true (by omega))) ?_
      refine wG rfl rfl (g_move rfl (.mk (v := .bool _) rfl rfl)) ?_
      refine WL.wantG rfl rfl rfl rfl (WL1.give rfl (g_move rfl (.mk (v := .int _ _) rfl rfl)) ?_)
      refine WL.wantG rfl rfl rfl rfl (WL1.give rfl (g_le rfl (.mk rfl rfl) (.mk rfl rfl) (decide_eq_false (by omega))) ?_)
      refine wG rfl rfl (g_pickT rfl (.mk rfl rfl) (.mk (v := .bool _) rfl rfl)) ?_
      refine wG rfl rfl (g_assign rfl (.mk (v := .bool _) rfl rfl)) ?_
      refine WL.nil ?_
      (refine hK _ _ ?_; clear hK)
      refine WC.ret ?_
      exact fun w' hw' => ⟨by rw [decide_eq_false fun h => h2 h.2]; rfl, hw'.1⟩
  · refine calls_wc (args := [iv z]) [2] [] Try.func38 rfl Try.ntmps38 rfl rfl rfl rfl (H.refl _) ?_
    refine WC.seq fun K hK => ?_
    refine WC.region rfl ?_
    refine wG rfl rfl (g_assign rfl (.mk (v := .bool _) rfl rfl)) ?_
    refine WL.nil ?_
    (refine hK _ _ ?_; clear hK)
    refine WC.seq fun K hK => ?_
    refine WC.region rfl ?_
    refine wG rfl rfl (g_move rfl (.mk (v := .int _ _) rfl rfl)) ?_
    refine wG rfl rfl (g_ge rfl (.mk rfl rfl) (.mk rfl rfl) (decide_eq_false (by omega))) ?_
    refine wG rfl rfl (g_move rfl (.mk (v := .bool _) rfl rfl)) ?_
    refine WL.skipG rfl rfl rfl rfl rfl rfl ?_
    refine WL.skipG rfl rfl rfl rfl rfl rfl ?_
    refine wG rfl rfl (g_pickF rfl (.mk rfl rfl) (.mk (v := .bool _) rfl rfl)) ?_
    refine wG rfl rfl (g_assign rfl (.mk (v := .bool _) rfl rfl)) ?_
    refine WL.nil ?_
    (refine hK _ _ ?_; clear hK)
    refine WC.ret ?_
    exact fun w' hw' => ⟨by rw [decide_eq_false fun h => h1 h.1]; rfl, hw'.1⟩
section
variable {w : World} {b : Nat} {B : Option Addr} {d : Nat} {bs : List Bool}
set_option maxHeartbeats 1000000 in
theorem pred_good (hc : w.cell? ⟨b, 0, none⟩ = some (.slice B bs.length d)) (hs : Sl w 1 (.slice B bs.length d) bs.length (bls bs)) : Pred w 81 [cellPtr (some ⟨b, 0, none⟩) 0] (fun i => nth bs i) bs.length := by
  refine ⟨by kernel_rfl, fun i hi w' hb => ?_⟩
  have hc' := kept_cell hb hc
  have hs' := hs.below hb
  have hgv := bls_get (l := bs) (k := i) hi
  refine calls_wc (args := [iv i, cellPtr (some ⟨b, 0, none⟩) 0]) [3] [] Try.func81 rfl Try.ntmps81 rfl rfl rfl rfl (H.refl _) ?_
  refine WC.seq fun K hK => ?_
  refine WC.region rfl ?_
  refine wG rfl rfl (g_assign rfl (.mk (v := .bool _) rfl rfl)) ?_
  refine WL.nil ?_
  (refine hK _ _ ?_; clear hK)
  refine WC.seq fun K hK => ?_
  refine WC.region rfl ?_
  refine wG rfl rfl (g_load rfl (.mk rfl rfl) rfl (rd_wb hc')) ?_
  refine wG rfl rfl (g_move rfl (.mk (v := .int _ _) rfl rfl)) ?_
  refine wG rfl rfl (g_indexAddr (sz := 1) rfl (.mk rfl rfl) (.mk rfl rfl) rfl rfl rfl (by omega) (fun _ _ => sl_some hs' (by omega))) ?_
  refine wG rfl rfl (g_load rfl (.mk rfl rfl) rfl (rd_sl hs' hgv)) ?_
  refine wG rfl rfl (g_assign rfl (.mk (v := .bool _) rfl rfl)) ?_
  refine WL.nil ?_
  (refine hK _ _ ?_; clear hK)
  refine WC.ret ?_
  exact fun w' hw' => ⟨rfl, hw'.1⟩
set_option maxHeartbeats 1000000 in
theorem pred_reads (hc : w.cell? ⟨b, 0, none⟩ = some (.slice B bs.length d)) (hs : Sl w 1 (.slice B bs.length d) bs.length (bls bs)) : Pred w 45 [cellPtr (some ⟨b, 0, none⟩) 0] (fun i => nth bs i) bs.length := by
  refine ⟨by kernel_rfl, fun i hi w' hb => ?_⟩
  have hc' := kept_cell hb hc
  have hs' := hs.below hb
  have hgv := bls_get (l := bs) (k := i) hi
  refine calls_wc (args := [iv i, cellPtr (some ⟨b, 0, none⟩) 0]) [3] [] Try.func45 rfl Try.ntmps45 rfl rfl rfl rfl (H.refl _) ?_
  refine WC.seq fun K hK => ?_
  refine WC.region rfl ?_
  refine wG rfl rfl (g_assign rfl (.mk (v := .bool _) rfl rfl)) ?_
  refine WL.nil ?_
  (refine hK _ _ ?_; clear hK)
  refine WC.seq fun K hK => ?_
  refine WC.region rfl ?_
  refine wG rfl rfl (g_load rfl (.mk rfl rfl) rfl (rd_wb hc')) ?_
  refine wG rfl rfl (g_move rfl (.mk (v := .int _ _) rfl rfl)) ?_
  refine wG rfl rfl (g_indexAddr (sz := 1) rfl (.mk rfl rfl) (.mk rfl rfl) rfl rfl rfl (by omega) (fun _ _ => sl_some hs' (by omega))) ?_
  refine wG rfl rfl (g_load rfl (.mk rfl rfl) rfl (rd_sl hs' hgv)) ?_
  refine wG rfl rfl (g_assign rfl (.mk (v := .bool _) rfl rfl)) ?_
  refine WL.nil ?_
  (refine hK _ _ ?_; clear hK)
  refine WC.ret ?_
  exact fun w' hw' => ⟨rfl, hw'.1⟩
set_option maxHeartbeats 1000000 in
theorem pred_first (hc : w.cell? ⟨b, 0, none⟩ = some (.slice B bs.length d)) (hs : Sl w 1 (.slice B bs.length d) bs.length (bls bs)) : Pred w 78 [cellPtr (some ⟨b, 0, none⟩) 0] (fun i => !nth bs i) bs.length := by
  refine ⟨by kernel_rfl, fun i hi w' hb => ?_⟩
  have hc' := kept_cell hb hc
  have hs' := hs.below hb
  have hgv := bls_get (l := bs) (k := i) hi
  refine calls_wc (args := [iv i, cellPtr (some ⟨b, 0, none⟩) 0]) [3] [] Try.func78 rfl Try.ntmps78 rfl rfl rfl rfl (H.refl _) ?_
  refine WC.seq fun K hK => ?_
  refine WC.region rfl ?_
  refine wG rfl rfl (g_assign rfl (.mk (v := .bool _) rfl rfl)) ?_
  refine WL.nil ?_
  (refine hK _ _ ?_; clear hK)
  refine WC.seq fun K hK => ?_
  refine WC.region rfl ?_
  refine wG rfl rfl (g_load rfl (.mk rfl rfl) rfl (rd_wb hc')) ?_
  refine wG rfl rfl (g_move rfl (.mk (v := .int _ _) rfl rfl)) ?_
  refine wG rfl rfl (g_indexAddr (sz := 1) rfl (.mk rfl rfl) (.mk rfl rfl) rfl rfl rfl (by omega) (fun _ _ => sl_some hs' (by omega))) ?_
  refine wG rfl rfl (g_load rfl (.mk rfl rfl) rfl (rd_sl hs' hgv)) ?_
  refine wG rfl rfl (g_not rfl (.mk rfl rfl)) ?_
  refine wG rfl rfl (g_assign rfl (.mk (v := .bool _) rfl rfl)) ?_
  refine WL.nil ?_
  (refine hK _ _ ?_; clear hK)
  refine WC.ret ?_
  exact fun w' hw' => ⟨rfl, hw'.1⟩
end
def dP (m : Nat) (T : List Int) (i : Nat) : Bool := decide (m ≤ i + 3) || hasB T i
def rP (m : Nat) (T : List Int) (i : Nat) : Bool := decide (i + 3 < m) && !hasB T i
set_option maxHeartbeats 1000000 in
theorem pred_delta {w : World} {b b2 m : Nat} {A : Option Addr} {c : Nat} {T : List Int} (hm : 4 ≤ m ∧ m ≤ 16) (hc : w.cell? ⟨b, 0, none⟩ = some (iv m)) (hc2 : w.cell? ⟨b2, 0, none⟩ = some (.slice A T.length c)) (hs : Sl w 1 (.slice A T.length c) T.length (ivs T)) : Pred w 64 [cellPtr (some ⟨b, 0, none⟩) 0, cellPtr (some ⟨b2, 0, none⟩) 0] (dP m T) m := by
  refine ⟨by kernel_rfl, fun i hi w' hb => ?_⟩
  have h1 := kept_cell hb hc
  have h2 := kept_cell hb hc2
  have hct := fun w2 hb2 => contains_e (.slice A T.length c) T i w2 ((hs.below hb).below (w' := w2) hb2)
  by_cases h : m ≤ i + 3
  · have hp : dP m T i = true := by rw [dP, decide_eq_true h]; rfl
    rw [hp]
    refine calls_wc (args := [iv i, cellPtr (some ⟨b, 0, none⟩) 0, cellPtr (some ⟨b2, 0, none⟩) 0]) [4] [] Try.func64 rfl Try.ntmps64 rfl rfl rfl rfl (H.refl _) ?_
    refine WC.seq fun K hK => ?_
    refine WC.region rfl ?_
    refine wG rfl rfl (g_assign rfl (.mk (v := .bool _) rfl rfl)) ?_
    refine WL.nil ?_
    (refine hK _ _ ?_; clear hK)
    refine WC.seq fun K hK => ?_
    refine WC.region rfl ?_
    refine wG rfl rfl (g_move rfl (.mk (v := .int _ _) rfl rfl)) ?_
    refine wG rfl rfl (g_load rfl (.mk rfl rfl) rfl (rd_wb h1)) ?_
    refine wG rfl rfl (g_sub rfl (.mk rfl rfl) (.mk rfl rfl) (IntWalk.i64_in _ (by omega))) ?_
    refine wG rfl rfl (g_ge rfl (.mk rfl rfl) (.mk rfl rfl) (decide_eq_true (by omega))) ?_
    refine wG rfl rfl (g_move rfl (.mk (v := .bool _) rfl rfl)) ?_
    refine WL.skipG rfl rfl rfl rfl rfl rfl ?_
    refine WL.skipG rfl rfl rfl rfl rfl rfl ?_
    refine WL.skipG rfl rfl rfl rfl rfl rfl ?_
    refine wG rfl rfl (g_pickT rfl (.mk rfl rfl) (.mk (v := .bool _) rfl rfl)) ?_
    refine wG rfl rfl (g_assign rfl (.mk (v := .bool _) rfl rfl)) ?_
    refine WL.nil ?_
    (refine hK _ _ ?_; clear hK)
    refine WC.ret ?_
    exact fun w' hw' => ⟨rfl, hw'.1⟩
  · have hp : dP m T i = hasB T i := by rw [dP, decide_eq_false h]; rfl
    rw [hp]
    refine calls_wc (args := [iv i, cellPtr (some ⟨b, 0, none⟩) 0, cellPtr (some ⟨b2, 0, none⟩) 0]) [4] [] Try.func64 rfl Try.ntmps64 rfl rfl rfl rfl (H.refl _) ?_
    refine WC.seq fun K hK => ?_
    refine WC.region rfl ?_
    refine wG rfl rfl (g_assign rfl (.mk (v := .bool _) rfl rfl)) ?_
    refine WL.nil ?_
    (refine hK _ _ ?_; clear hK)
    refine WC.seq fun K hK => ?_
    refine WC.region rfl ?_
    refine wG rfl rfl (g_move rfl (.mk (v := .int _ _) rfl rfl)) ?_
    refine wG rfl rfl (g_load rfl (.mk rfl rfl) rfl (rd_wb h1)) ?_
    refine wG rfl rfl (g_sub rfl (.mk rfl rfl) (.mk rfl rfl) (IntWalk.i64_in _ (by omega))) ?_
    refine wG rfl rfl (g_ge rfl (.mk rfl rfl) (.mk rfl rfl) (decide_eq_false (by omega))) ?_
    refine wG rfl rfl (g_move rfl (.mk (v := .bool _) rfl rfl)) ?_
    refine WL.wantG rfl rfl rfl rfl (WL1.give rfl (g_load rfl (.mk rfl rfl) rfl (rd_wb h2)) ?_)
    refine WL.wantG rfl rfl rfl rfl (WL1.give rfl (g_move rfl (.mk (v := .int _ _) rfl rfl)) ?_)
    refine WL.wantG rfl rfl rfl rfl (WL1.callP rfl rfl rfl (.cons (.mk (v := .slice _ _ _) rfl rfl) (.cons (.mk (v := .int _ _) rfl rfl) .nil)) (fun w hw => hct w hw.1) ?_)
    refine wG rfl rfl (g_pickF rfl (.mk rfl rfl) (.mk (v := .bool _) rfl rfl)) ?_
    refine wG rfl rfl (g_assign rfl (.mk (v := .bool _) rfl rfl)) ?_
    refine WL.nil ?_
    (refine hK _ _ ?_; clear hK)
    refine WC.ret ?_
    exact fun w' hw' => ⟨rfl, hw'.1⟩
set_option maxHeartbeats 1000000 in
theorem pred_recompute {w : World} {b b2 m : Nat} {A : Option Addr} {c : Nat} {T : List Int} (hm : 4 ≤ m ∧ m ≤ 16) (hc : w.cell? ⟨b, 0, none⟩ = some (iv m)) (hc2 : w.cell? ⟨b2, 0, none⟩ = some (.slice A T.length c)) (hs : Sl w 1 (.slice A T.length c) T.length (ivs T)) : Pred w 67 [cellPtr (some ⟨b, 0, none⟩) 0, cellPtr (some ⟨b2, 0, none⟩) 0] (rP m T) m := by
  refine ⟨by kernel_rfl, fun i hi w' hb => ?_⟩
  have h1 := kept_cell hb hc
  have h2 := kept_cell hb hc2
  have hct := fun w2 hb2 => contains_e (.slice A T.length c) T i w2 ((hs.below hb).below (w' := w2) hb2)
  by_cases h : i + 3 < m
  · have hp : rP m T i = !hasB T i := by rw [rP, decide_eq_true h]; rfl
    rw [hp]
    refine calls_wc (args := [iv i, cellPtr (some ⟨b, 0, none⟩) 0, cellPtr (some ⟨b2, 0, none⟩) 0]) [4] [] Try.func67 rfl Try.ntmps67 rfl rfl rfl rfl (H.refl _) ?_
    refine WC.seq fun K hK => ?_
    refine WC.region rfl ?_
    refine wG rfl rfl (g_assign rfl (.mk (v := .bool _) rfl rfl)) ?_
    refine WL.nil ?_
    (refine hK _ _ ?_; clear hK)
    refine WC.seq fun K hK => ?_
    refine WC.region rfl ?_
    refine wG rfl rfl (g_move rfl (.mk (v := .int _ _) rfl rfl)) ?_
    refine wG rfl rfl (g_load rfl (.mk rfl rfl) rfl (rd_wb h1)) ?_
    refine wG rfl rfl (g_sub rfl (.mk rfl rfl) (.mk rfl rfl) (IntWalk.i64_in _ (by omega))) ?_
    refine wG rfl rfl (g_lt rfl (.mk rfl rfl) (.mk rfl rfl) (decide_eq_true (by omega))) ?_
    refine wG rfl rfl (g_move rfl (.mk (v := .bool _) rfl rfl)) ?_
    refine WL.wantG rfl rfl rfl rfl (WL1.give rfl (g_load rfl (.mk rfl rfl) rfl (rd_wb h2)) ?_)
    refine WL.wantG rfl rfl rfl rfl (WL1.give rfl (g_move rfl (.mk (v := .int _ _) rfl rfl)) ?_)
    refine WL.wantG rfl rfl rfl rfl (WL1.callP rfl rfl rfl (.cons (.mk (v := .slice _ _ _) rfl rfl) (.cons (.mk (v := .int _ _) rfl rfl) .nil)) (fun w hw => hct w hw.1) ?_)
    refine WL.wantG rfl rfl rfl rfl (WL1.give rfl (g_not rfl (.mk rfl rfl)) ?_)
    refine wG rfl rfl (g_pickT rfl (.mk rfl rfl) (.mk (v := .bool _) rfl rfl)) ?_
    refine wG rfl rfl (g_assign rfl (.mk (v := .bool _) rfl rfl)) ?_
    refine WL.nil ?_
    (refine hK _ _ ?_; clear hK)
    refine WC.ret ?_
    exact fun w' hw' => ⟨rfl, hw'.1⟩
  · have hp : rP m T i = false := by rw [rP, decide_eq_false h]; rfl
    rw [hp]
    refine calls_wc (args := [iv i, cellPtr (some ⟨b, 0, none⟩) 0, cellPtr (some ⟨b2, 0, none⟩) 0]) [4] [] Try.func67 rfl Try.ntmps67 rfl rfl rfl rfl (H.refl _) ?_
    refine WC.seq fun K hK => ?_
    refine WC.region rfl ?_
    refine wG rfl rfl (g_assign rfl (.mk (v := .bool _) rfl rfl)) ?_
    refine WL.nil ?_
    (refine hK _ _ ?_; clear hK)
    refine WC.seq fun K hK => ?_
    refine WC.region rfl ?_
    refine wG rfl rfl (g_move rfl (.mk (v := .int _ _) rfl rfl)) ?_
    refine wG rfl rfl (g_load rfl (.mk rfl rfl) rfl (rd_wb h1)) ?_
    refine wG rfl rfl (g_sub rfl (.mk rfl rfl) (.mk rfl rfl) (IntWalk.i64_in _ (by omega))) ?_
    refine wG rfl rfl (g_lt rfl (.mk rfl rfl) (.mk rfl rfl) (decide_eq_false (by omega))) ?_
    refine wG rfl rfl (g_move rfl (.mk (v := .bool _) rfl rfl)) ?_
    refine WL.skipG rfl rfl rfl rfl rfl rfl ?_
    refine WL.skipG rfl rfl rfl rfl rfl rfl ?_
    refine WL.skipG rfl rfl rfl rfl rfl rfl ?_
    refine WL.skipG rfl rfl rfl rfl rfl rfl ?_
    refine wG rfl rfl (g_pickF rfl (.mk rfl rfl) (.mk (v := .bool _) rfl rfl)) ?_
    refine wG rfl rfl (g_assign rfl (.mk (v := .bool _) rfl rfl)) ?_
    refine WL.nil ?_
    (refine hK _ _ ?_; clear hK)
    refine WC.ret ?_
    exact fun w' hw' => ⟨rfl, hw'.1⟩
set_option maxHeartbeats 1000000 in
theorem indexf_e (v : Value) (l : List Nat) (f : FuncId) (caps : List Value) (p : Nat → Bool) (n : Nat) (w : World) (hv : Sl w 1 v l.length (ldv l)) (hp : Pred w f caps p n) (hl : ∀ k, k < l.length → nth l k < n) :
    Calls Try.prog 91 #[v, .func (.func f) #[] caps.toArray] w fun e w' => e = .returned (iv (gfz (gfnd (fun k => p (nth l k)) l.length))) ∧ Below w.heap.size w w' := by
  obtain ⟨A, cc, rfl, hcc, hm, hs⟩ := hv.open_
  have hok := hp.ok
  unfold maxLen at hm
  refine calls_wc (args := [.slice A l.length cc, .func (.func f) #[] caps.toArray]) [4] [] Try.func91 rfl Try.ntmps91 rfl rfl rfl rfl (H.refl _) ?_
  refine WC.seq fun K hK => ?_
  refine WC.region rfl ?_
  refine wG rfl rfl (g_assign rfl (.mk (v := .int _ _) rfl rfl)) ?_
  refine WL.nil ?_
  (refine hK _ _ ?_; clear hK)
  refine WC.seq fun K hK => ?_
  refine WC.seq fun K hK => ?_
  refine WC.region rfl ?_
  refine wG rfl rfl (g_move rfl (.mk (v := .slice _ _ _) rfl rfl)) ?_
  refine wG rfl rfl (g_len rfl (.mk rfl rfl) rfl) ?_
  refine wG rfl rfl (g_move rfl (.mk (v := .int _ _) rfl rfl)) ?_
  refine WL.nil ?_
  (refine hK _ _ ?_; clear hK)
  refine WC.block ?_
  refine WC.loopF (fun k : Nat => [(8, iv k), (7, iv l.length), (0, .slice A l.length cc), (1, .func (.func f) #[] caps.toArray)]) (fun _ => []) (fun k => k ≤ l.length ∧ ∀ j, j < k → p (nth l j) = false) (fun k => l.length - k) 0 (by repeat (first | exact trivial | refine ⟨rfl, ?_⟩)) (Imp.nil _) ⟨by omega, fun j hj => absurd hj (by omega)⟩ ?_
  rintro k U ⟨hk, hq⟩
  by_cases hlt : k < l.length
  · have hgv := ldv_get hlt
    have hr := hp.run (nth l k) (hl k hlt)
    cases hz : p (nth l k) with
    | false =>
      rw [hz] at hr
      refine WC.seq fun K hK => ?_
      refine WC.region rfl ?_
      refine wG rfl rfl (g_lt rfl (.mk rfl rfl) (.mk rfl rfl) (decide_eq_true (by omega))) ?_
      refine WL.nil ?_
      (refine hK _ _ ?_; clear hK)
      refine WC.seq fun K hK => ?_
      refine WC.cond_true (.mk rfl rfl) ?_
      refine WC.skip ?_
      (refine hK _ _ ?_; clear hK)
      refine WC.seq fun K hK => ?_
      refine WC.block ?_
      refine WC.seq fun K hK => ?_
      refine WC.region rfl ?_
      refine wG rfl rfl (g_move rfl (.mk (v := .int _ _) rfl rfl)) ?_
      refine wG rfl rfl (g_assign rfl (.mk (v := .int _ _) rfl rfl)) ?_
      refine WL.nil ?_
      (refine hK _ _ ?_; clear hK)
      refine WC.seq fun K hK => ?_
      refine WC.region rfl ?_
      refine wG rfl rfl (g_move rfl (.mk (v := .func _ _ _) rfl rfl)) ?_
      refine wG rfl rfl (g_move rfl (.mk (v := .slice _ _ _) rfl rfl)) ?_
      refine wG rfl rfl (g_move rfl (.mk (v := .int _ _) rfl rfl)) ?_
      refine wG rfl rfl (g_indexAddr (sz := 1) rfl (.mk rfl rfl) (.mk rfl rfl) rfl rfl rfl (by omega) (fun _ _ => sl_some hs (by omega))) ?_
      refine wG rfl rfl (g_load rfl (.mk rfl rfl) rfl (rd_sl hs hgv)) ?_
      refine WL.want rfl (WL1.callVP rfl rfl (.mk rfl rfl) (by first | assumption | rfl) (.cons (.mk (v := .int _ _) rfl rfl) .nil) (fun w hw => hr w hw.1) ?_)
      refine WL.nil ?_
      (refine hK _ _ ?_; clear hK)
      refine WC.cond_false (.mk rfl rfl) ?_
      refine WC.skip ?_
      (refine hK _ _ ?_; clear hK)
      refine WC.region rfl ?_
      refine wG rfl rfl (g_add rfl (.mk rfl rfl) (.mk rfl rfl) (IntWalk.i64_in _ (by omega))) ?_
      refine wG rfl rfl (g_move rfl (.mk (v := .int _ _) rfl rfl)) ?_
      refine WL.nil ?_
      refine ⟨k + 1, (by repeat (first | exact trivial | refine ⟨rfl, ?_⟩)), .refl _, ⟨by omega, fun j hj => ?_⟩, by omega⟩
      by_cases e : j = k
      · rw [e]; exact hz
      · exact hq j (by omega)
    | true =>
      rw [hz] at hr
      refine WC.seq fun K hK => ?_
      refine WC.region rfl ?_
      refine wG rfl rfl (g_lt rfl (.mk rfl rfl) (.mk rfl rfl) (decide_eq_true (by omega))) ?_
      refine WL.nil ?_
      (refine hK _ _ ?_; clear hK)
      refine WC.seq fun K hK => ?_
      refine WC.cond_true (.mk rfl rfl) ?_
      refine WC.skip ?_
      (refine hK _ _ ?_; clear hK)
      refine WC.seq fun K hK => ?_
      refine WC.block ?_
      refine WC.seq fun K hK => ?_
      refine WC.region rfl ?_
      refine wG rfl rfl (g_move rfl (.mk (v := .int _ _) rfl rfl)) ?_
      refine wG rfl rfl (g_assign rfl (.mk (v := .int _ _) rfl rfl)) ?_
      refine WL.nil ?_
      (refine hK _ _ ?_; clear hK)
      refine WC.seq fun K hK => ?_
      refine WC.region rfl ?_
      refine wG rfl rfl (g_move rfl (.mk (v := .func _ _ _) rfl rfl)) ?_
      refine wG rfl rfl (g_move rfl (.mk (v := .slice _ _ _) rfl rfl)) ?_
      refine wG rfl rfl (g_move rfl (.mk (v := .int _ _) rfl rfl)) ?_
      refine wG rfl rfl (g_indexAddr (sz := 1) rfl (.mk rfl rfl) (.mk rfl rfl) rfl rfl rfl (by omega) (fun _ _ => sl_some hs (by omega))) ?_
      refine wG rfl rfl (g_load rfl (.mk rfl rfl) rfl (rd_sl hs hgv)) ?_
      refine WL.want rfl (WL1.callVP rfl rfl (.mk rfl rfl) (by first | assumption | rfl) (.cons (.mk (v := .int _ _) rfl rfl) .nil) (fun w hw => hr w hw.1) ?_)
      refine WL.nil ?_
      (refine hK _ _ ?_; clear hK)
      refine WC.cond_true (.mk rfl rfl) ?_
      refine WC.seq fun K hK => ?_
      refine WC.region rfl ?_
      refine wG rfl rfl (g_move rfl (.mk (v := .int _ _) rfl rfl)) ?_
      refine wG rfl rfl (g_assign rfl (.mk (v := .int _ _) rfl rfl)) ?_
      refine WL.nil ?_
      (refine hK _ _ ?_; clear hK)
      refine WC.ret ?_
      exact fun w' hw' => ⟨by rw [gfnd_eq (p := fun k => p (nth l k)) hlt hz hq]; rfl, hw'.1⟩
  · obtain rfl : k = l.length := by omega
    refine WC.seq fun K hK => ?_
    refine WC.region rfl ?_
    refine wG rfl rfl (g_lt rfl (.mk rfl rfl) (.mk rfl rfl) (decide_eq_false (by omega))) ?_
    refine WL.nil ?_
    (refine hK _ _ ?_; clear hK)
    refine WC.seq fun K hK => ?_
    refine WC.cond_false (.mk rfl rfl) ?_
    refine WC.exit ?_
    (clear hK; refine hK _ _ ?_; clear hK)
    refine WC.seq fun K hK => ?_
    refine WC.region rfl ?_
    refine wG rfl rfl (g_assign rfl (.mk (v := .int _ _) rfl rfl)) ?_
    refine WL.nil ?_
    (refine hK _ _ ?_; clear hK)
    refine WC.ret ?_
    exact fun w' hw' => ⟨by rw [gfnd_all hq]; rfl, hw'.1⟩
set_option maxHeartbeats 1000000 in
theorem containsf_e (v : Value) (l : List Nat) (f : FuncId) (caps : List Value) (p : Nat → Bool) (n : Nat) (w : World) (hv : Sl w 1 v l.length (ldv l)) (hp : Pred w f caps p n) (hl : ∀ k, k < l.length → nth l k < n) :
    Calls Try.prog 80 #[v, .func (.func f) #[] caps.toArray] w fun e w' => e = .returned (.bool (gfnd (fun k => p (nth l k)) l.length).isSome) ∧ Below w.heap.size w w' := by
  have hix := fun w' (hb : Below w.heap.size w w') => indexf_e v l f caps p n w' (hv.below hb) ⟨hp.ok, fun i hi w2 hb2 => hp.run i hi w2 (hb.trans (hb2.mono hb.size))⟩ hl
  obtain ⟨o, ho⟩ : ∃ o, o = gfnd (fun k => p (nth l k)) l.length := ⟨_, rfl⟩
  rw [← ho] at hix ⊢
  have hb := gfz_ge o
  refine calls_wc (args := [v, .func (.func f) #[] caps.toArray]) [4] [] Try.func80 rfl Try.ntmps80 rfl rfl rfl rfl (H.refl _) ?_
  refine WC.seq fun K hK => ?_
  refine WC.region rfl ?_
  refine wG rfl rfl (g_assign rfl (.mk (v := .bool _) rfl rfl)) ?_
  refine WL.nil ?_
  (refine hK _ _ ?_; clear hK)
  refine WC.seq fun K hK => ?_
  refine WC.region rfl ?_
  refine wG rfl rfl (g_move rfl (.mk rfl (by conv => lhs; whnf))) ?_
  refine wG rfl rfl (g_move rfl (.mk (v := .func _ _ _) rfl rfl)) ?_
  refine WL.want rfl (WL1.callP rfl rfl rfl (.cons (.mk rfl (by conv => lhs; whnf)) (.cons (.mk (v := .func _ _ _) rfl rfl) .nil)) (fun w hw => hix w hw.1) ?_)
  refine wG rfl rfl (g_ge rfl (.mk rfl rfl) (.mk rfl rfl) hb) ?_
  refine wG rfl rfl (g_assign rfl (.mk (v := .bool _) rfl rfl)) ?_
  refine WL.nil ?_
  (refine hK _ _ ?_; clear hK)
  refine WC.ret ?_
  exact fun w' hw' => ⟨rfl, hw'.1⟩
def goodL (l : List Nat) (bs : List Bool) : Bool := !(gfnd (fun k => nth bs (nth l k)) l.length).isSome
set_option maxHeartbeats 1000000 in
theorem good_e (vl vb : Value) (l : List Nat) (bs : List Bool) (w : World) (hv : Sl w 1 vl l.length (ldv l)) (hb : Sl w 1 vb bs.length (bls bs)) (hl : ∀ k, k < l.length → nth l k < bs.length) :
    Calls Try.prog 66 #[vl, vb] w fun e w' => e = .returned (.bool (goodL l bs)) ∧ Below w.heap.size w w' := by
  obtain ⟨B, d, rfl, hcd, hmd, hsb⟩ := hb.open_
  obtain ⟨A, c, rfl, hcc, hm, hs⟩ := hv.open_
  refine calls_wc (args := [.slice A l.length c, .slice B bs.length d]) [4] [] Try.func66 rfl Try.ntmps66 rfl rfl rfl rfl (H.refl _) ?_
  refine WC.seq fun K hK => ?_
  refine WC.region rfl ?_
  refine WL.want rfl (WL1.box rfl rfl (.mk (v := .slice _ _ _) rfl rfl) rfl (fun b3 => ?_))
  refine wG rfl rfl (g_assign rfl (.mk (v := .bool _) rfl rfl)) ?_
  refine WL.nil ?_
  (refine hK _ _ ?_; clear hK)
  refine WC.seq fun K hK => ?_
  refine WC.region rfl ?_
  refine wG rfl rfl (g_move rfl (.mk (v := .slice _ _ _) rfl rfl)) ?_
  refine wG rfl rfl (g_makeFunc rfl (.cons (.mk (v := cellPtr _ _) rfl rfl) .nil)) ?_
  refine WL.want rfl (WL1.callP rfl rfl rfl (.cons (.mk (v := .slice _ _ _) rfl rfl) (.cons (.mk (v := .func _ _ _) rfl rfl) .nil)) (fun w hw => containsf_e _ l _ [cellPtr (some ⟨b3, 0, none⟩) 0] (fun i => nth bs i) bs.length w (hs.below hw.1) (pred_good (cell_pt hw (by repeat (first | exact .head _ | apply List.Mem.tail)) rfl) (hsb.below hw.1)) hl) ?_)
  refine wG rfl rfl (g_not rfl (.mk rfl rfl)) ?_
  refine wG rfl rfl (g_assign rfl (.mk (v := .bool _) rfl rfl)) ?_
  refine WL.nil ?_
  (refine hK _ _ ?_; clear hK)
  refine WC.ret ?_
  exact fun w' hw' => ⟨rfl, hw'.1⟩
end Go.Proofs.Ytnkbnponpknokaa
namespace Go.Proofs.Ytnkbnponpknokaa
set_option maxRecDepth 20000
open Go.RowKit
attribute [local irreducible] Calls
theorem numL_lt (p : Nat → Bool) : ∀ n, ∀ k, k < (numL p n).length → nth (numL p n) k < n
  | 0, k, h => absurd h (by simp [numL])
  | n + 1, k, h => by
    have ih := numL_lt p n
    by_cases hp : p n = true
    · have e : numL p (n + 1) = numL p n ++ [n] := by rw [numL, if_pos hp]
      rw [e, List.length_append] at h
      simp only [List.length_cons, List.length_nil] at h
      rw [e]
      by_cases hk : k < (numL p n).length
      · have : nth (numL p n ++ [n]) k = nth (numL p n) k := by unfold nth; simp [List.getD_eq_getElem?_getD, List.getElem?_append_left hk]
        rw [this]; have := ih k hk; omega
      · have : nth (numL p n ++ [n]) k = n := by unfold nth; rw [List.getD_eq_getElem?_getD, List.getElem?_append_right (by omega), show k - (numL p n).length = 0 from by omega]; rfl
        rw [this]; omega
    · have e : numL p (n + 1) = numL p n := by rw [numL, if_neg hp]
      rw [e] at h ⊢
      have := ih k h; omega
section
variable {w : World} {A B : Option Addr} {c d : Nat} {T : List Int} {bs : List Bool}
set_option maxHeartbeats 1000000 in
theorem delta_n (hm : 4 ≤ bs.length ∧ bs.length ≤ 16) (hs : Sl w 1 (.slice A T.length c) T.length (ivs T)) (hsb : Sl w 1 (.slice B bs.length d) bs.length (bls bs)) :
    Calls Try.prog 49 #[iv bs.length, .slice A T.length c, .slice B bs.length d] w fun e w' => ∃ v' M, e = .returned v' ∧ H w M w' ∧ ∃ A1 c1, v' = .tuple #[.slice A1 (numL (dP bs.length T) bs.length).length c1, .bool (goodL (numL (dP bs.length T) bs.length) bs)] ∧ M = [vec A1 (numL (dP bs.length T) bs.length).length c1 3 1 (ldv (numL (dP bs.length T) bs.length))] := by
  have hlt := numL_lt (dP bs.length T) bs.length
  refine calls_wc (args := [iv bs.length, .slice A T.length c, .slice B bs.length d]) [6, 7] [] Try.func49 rfl Try.ntmps49 rfl rfl rfl rfl (H.refl _) ?_
  refine WC.seq fun K hK => ?_
  refine WC.region rfl ?_
  refine WL.want rfl (WL1.box rfl rfl (.mk (v := .int _ _) rfl rfl) rfl (fun b3 => ?_))
  refine WL.want rfl (WL1.box rfl rfl (.mk (v := .slice _ _ _) rfl rfl) rfl (fun b4 => ?_))
  refine wG rfl rfl (g_assign rfl (.mk (v := .slice _ _ _) rfl rfl)) ?_
  refine wG rfl rfl (g_assign rfl (.mk (v := .bool _) rfl rfl)) ?_
  refine WL.nil ?_
  (refine hK _ _ ?_; clear hK)
  refine WC.seq fun K hK => ?_
  refine WC.region rfl ?_
  refine wG rfl rfl (g_load rfl (.mk rfl rfl) rfl (rd_pt (by repeat (first | exact .head _ | apply List.Mem.tail)) rfl)) ?_
  refine wG rfl rfl (g_makeFunc rfl (.cons (.mk (v := cellPtr _ _) rfl rfl) (.cons (.mk (v := cellPtr _ _) rfl rfl) .nil))) ?_
  (refine WL.want rfl (WL1.callN rfl rfl rfl (.cons (.mk (v := .int _ _) rfl rfl) (.cons (.mk (v := .func _ _ _) rfl rfl) .nil)) (fun w hw => numbers_n _ [cellPtr (some ⟨b3, 0, none⟩) 0, cellPtr (some ⟨b4, 0, none⟩) 0] (dP bs.length T) bs.length w (pred_delta hm (cell_pt hw (by repeat (first | exact .head _ | apply List.Mem.tail)) rfl) (cell_pt hw (by repeat (first | exact .head _ | apply List.Mem.tail)) rfl) (hs.below hw.1)) (by omega)) ?_); rintro _ _ ⟨A1, c1, rfl, rfl⟩)
  refine wG rfl rfl (g_assign rfl (.mk (v := .slice _ _ _) rfl rfl)) ?_
  refine WL.nil ?_
  (refine hK _ _ ?_; clear hK)
  refine WC.seq fun K hK => ?_
  refine WC.region rfl ?_
  refine wG rfl rfl (g_move rfl (.mk (v := .slice _ _ _) rfl rfl)) ?_
  refine wG rfl rfl (g_move rfl (.mk (v := .slice _ _ _) rfl rfl)) ?_
  refine wG rfl rfl (g_move rfl (.mk (v := .slice _ _ _) rfl rfl)) ?_
  refine WL.want rfl (WL1.callP rfl rfl rfl (.cons (.mk (v := .slice _ _ _) rfl rfl) (.cons (.mk (v := .slice _ _ _) rfl rfl) .nil)) (fun w hw => good_e _ _ (numL (dP bs.length T) bs.length) bs w (Sl.of_vec hw (by repeat (first | exact .head _ | apply List.Mem.tail))) (hsb.below hw.1) hlt) ?_)
  refine wG rfl rfl (g_assign rfl (.mk (v := .slice _ _ _) rfl rfl)) ?_
  refine wG rfl rfl (g_assign rfl (.mk (v := .bool _) rfl rfl)) ?_
  refine WL.nil ?_
  (refine hK _ _ ?_; clear hK)
  refine WC.ret ?_
  exact fun w' hw' => ⟨_, _, rfl, hw'.sub (.cons_cons _ (.cons _ (.cons _ .slnil))), A1, c1, rfl, rfl⟩
set_option maxHeartbeats 1000000 in
theorem recompute_n (hm : 4 ≤ bs.length ∧ bs.length ≤ 16) (hs : Sl w 1 (.slice A T.length c) T.length (ivs T)) (hsb : Sl w 1 (.slice B bs.length d) bs.length (bls bs)) :
    Calls Try.prog 50 #[iv bs.length, .slice A T.length c, .slice B bs.length d] w fun e w' => ∃ v' M, e = .returned v' ∧ H w M w' ∧ ∃ A1 c1, v' = .tuple #[.slice A1 (numL (rP bs.length T) bs.length).length c1, .bool (goodL (numL (rP bs.length T) bs.length) bs)] ∧ M = [vec A1 (numL (rP bs.length T) bs.length).length c1 3 1 (ldv (numL (rP bs.length T) bs.length))] := by
  have hlt := numL_lt (rP bs.length T) bs.length
  refine calls_wc (args := [iv bs.length, .slice A T.length c, .slice B bs.length d]) [6, 7] [] Try.func50 rfl Try.ntmps50 rfl rfl rfl rfl (H.refl _) ?_
  refine WC.seq fun K hK => ?_
  refine WC.region rfl ?_
  refine WL.want rfl (WL1.box rfl rfl (.mk (v := .int _ _) rfl rfl) rfl (fun b3 => ?_))
  refine WL.want rfl (WL1.box rfl rfl (.mk (v := .slice _ _ _) rfl rfl) rfl (fun b4 => ?_))
  refine wG rfl rfl (g_assign rfl (.mk (v := .slice _ _ _) rfl rfl)) ?_
  refine wG rfl rfl (g_assign rfl (.mk (v := .bool _) rfl rfl)) ?_
  refine WL.nil ?_
  (refine hK _ _ ?_; clear hK)
  refine WC.seq fun K hK => ?_
  refine WC.region rfl ?_
  refine wG rfl rfl (g_load rfl (.mk rfl rfl) rfl (rd_pt (by repeat (first | exact .head _ | apply List.Mem.tail)) rfl)) ?_
  refine wG rfl rfl (g_makeFunc rfl (.cons (.mk (v := cellPtr _ _) rfl rfl) (.cons (.mk (v := cellPtr _ _) rfl rfl) .nil))) ?_
  (refine WL.want rfl (WL1.callN rfl rfl rfl (.cons (.mk (v := .int _ _) rfl rfl) (.cons (.mk (v := .func _ _ _) rfl rfl) .nil)) (fun w hw => numbers_n _ [cellPtr (some ⟨b3, 0, none⟩) 0, cellPtr (some ⟨b4, 0, none⟩) 0] (rP bs.length T) bs.length w (pred_recompute hm (cell_pt hw (by repeat (first | exact .head _ | apply List.Mem.tail)) rfl) (cell_pt hw (by repeat (first | exact .head _ | apply List.Mem.tail)) rfl) (hs.below hw.1)) (by omega)) ?_); rintro _ _ ⟨A1, c1, rfl, rfl⟩)
  refine wG rfl rfl (g_assign rfl (.mk (v := .slice _ _ _) rfl rfl)) ?_
  refine WL.nil ?_
  (refine hK _ _ ?_; clear hK)
  refine WC.seq fun K hK => ?_
  refine WC.region rfl ?_
  refine wG rfl rfl (g_move rfl (.mk (v := .slice _ _ _) rfl rfl)) ?_
  refine wG rfl rfl (g_move rfl (.mk (v := .slice _ _ _) rfl rfl)) ?_
  refine wG rfl rfl (g_move rfl (.mk (v := .slice _ _ _) rfl rfl)) ?_
  refine WL.want rfl (WL1.callP rfl rfl rfl (.cons (.mk (v := .slice _ _ _) rfl rfl) (.cons (.mk (v := .slice _ _ _) rfl rfl) .nil)) (fun w hw => good_e _ _ (numL (rP bs.length T) bs.length) bs w (Sl.of_vec hw (by repeat (first | exact .head _ | apply List.Mem.tail))) (hsb.below hw.1) hlt) ?_)
  refine wG rfl rfl (g_assign rfl (.mk (v := .slice _ _ _) rfl rfl)) ?_
  refine wG rfl rfl (g_assign rfl (.mk (v := .bool _) rfl rfl)) ?_
  refine WL.nil ?_
  (refine hK _ _ ?_; clear hK)
  refine WC.ret ?_
  exact fun w' hw' => ⟨_, _, rfl, hw'.sub (.cons_cons _ (.cons _ (.cons _ .slnil))), A1, c1, rfl, rfl⟩
def gP (bs : List Bool) (i : Nat) : Bool := !nth bs i
theorem ldv_take (l : List Nat) (k : Nat) : (ldv l).take (k * 1) = ldv (l.take k) := by unfold ldv; rw [Nat.mul_one, List.map_take]
set_option maxHeartbeats 1000000 in
theorem first_n {N : Nat} (hN : bs.length = N + 3) (h1 : 1 ≤ N) (h2 : N ≤ 13) (hg : N ≤ (numL (gP bs) bs.length).length) (hsb : Sl w 1 (.slice B bs.length d) bs.length (bls bs)) :
    Calls Try.prog 63 #[iv bs.length, .slice A T.length c, .slice B bs.length d] w fun e w' => ∃ v' M, e = .returned v' ∧ H w M w' ∧ ∃ A1 c1, v' = .tuple #[.slice A1 N c1, .bool true] ∧ M = [vec A1 N c1 3 1 (ldv ((numL (gP bs) bs.length).take N))] := by
  have hsub : IntKind.i64.wrap ((bs.length : Int) - 3) = (N : Int) := by rw [IntWalk.i64_in _ (by omega)]; omega
  refine calls_wc (args := [iv bs.length, .slice A T.length c, .slice B bs.length d]) [6, 7] [] Try.func63 rfl Try.ntmps63 rfl rfl rfl rfl (H.refl _) ?_
  refine WC.seq fun K hK => ?_
  refine WC.region rfl ?_
  refine WL.want rfl (WL1.box rfl rfl (.mk (v := .slice _ _ _) rfl rfl) rfl (fun b5 => ?_))
  refine wG rfl rfl (g_assign rfl (.mk (v := .slice _ _ _) rfl rfl)) ?_
  refine wG rfl rfl (g_assign rfl (.mk (v := .bool _) rfl rfl)) ?_
  refine WL.nil ?_
  (refine hK _ _ ?_; clear hK)
  refine WC.seq fun K hK => ?_
  refine WC.region rfl ?_
  refine wG rfl rfl (g_move rfl (.mk (v := .int _ _) rfl rfl)) ?_
  refine wG rfl rfl (g_makeFunc rfl (.cons (.mk (v := cellPtr _ _) rfl rfl) .nil)) ?_
  (refine WL.want rfl (WL1.callN rfl rfl rfl (.cons (.mk (v := .int _ _) rfl rfl) (.cons (.mk (v := .func _ _ _) rfl rfl) .nil)) (fun w hw => numbers_n _ [cellPtr (some ⟨b5, 0, none⟩) 0] (gP bs) bs.length w (pred_first (cell_pt hw (by repeat (first | exact .head _ | apply List.Mem.tail)) rfl) (hsb.below hw.1)) (by omega)) ?_); rintro _ _ ⟨A1, c1, rfl, rfl⟩)
  refine wG rfl rfl (g_assign rfl (.mk (v := .slice _ _ _) rfl rfl)) ?_
  refine WL.nil ?_
  (refine hK _ _ ?_; clear hK)
  refine WC.seq fun K hK => ?_
  refine WC.seq fun K hK => ?_
  refine WC.region rfl ?_
  refine wG rfl rfl (g_move rfl (.mk (v := .slice _ _ _) rfl rfl)) ?_
  refine wG rfl rfl (g_len rfl (.mk rfl rfl) rfl) ?_
  refine wG rfl rfl (g_move rfl (.mk (v := .int _ _) rfl rfl)) ?_
  refine wG rfl rfl (g_sub rfl (.mk rfl rfl) (.mk rfl rfl) hsub) ?_
  refine wG rfl rfl (g_lt rfl (.mk rfl rfl) (.mk rfl rfl) (decide_eq_false (by omega))) ?_
  refine WL.nil ?_
  (refine hK _ _ ?_; clear hK)
  refine WC.cond_false (.mk rfl rfl) ?_
  refine WC.skip ?_
  (refine hK _ _ ?_; clear hK)
  refine WC.seq fun K hK => ?_
  refine WC.region rfl ?_
  refine wG rfl rfl (g_move rfl (.mk (v := .slice _ _ _) rfl rfl)) ?_
  refine wG rfl rfl (g_move rfl (.mk (v := .int _ _) rfl rfl)) ?_
  refine wG rfl rfl (g_sub rfl (.mk rfl rfl) (.mk rfl rfl) hsub) ?_
  refine wG rfl rfl (g_sliceC (sz := 1) (kl := .i64) (p := 0) rfl (.mk rfl rfl) rfl rfl rfl ⟨(.mk rfl rfl), rfl⟩ (by omega) (fun w hw => Nat.le_trans (by omega) (vec_cap hw (.head _)))) ?_
  refine wG rfl rfl (g_assign rfl (.mk (v := .slice _ _ _) rfl rfl)) ?_
  refine wG rfl rfl (g_assign rfl (.mk (v := .bool _) rfl rfl)) ?_
  refine WL.nil ?_
  (refine hK _ _ ?_; clear hK)
  refine WC.ret ?_
  refine fun w' hw' => ?_
  obtain ⟨g, rfl⟩ := vec_at hw' (.head _) (by omega)
  refine ⟨_, [vec (some ⟨g, 0, none⟩) N c1 3 1 (ldv ((numL (gP bs) bs.length).take N))], rfl, ?_, some ⟨g, 0, none⟩, c1, ?_, rfl⟩
  · rw [← ldv_take]
    exact Imp.h (Imp.trans (Imp.prefix_ _ hg) (Imp.cons (Imp.nil _))) hw'
  · show Value.tuple #[.slice (subA (some ⟨g, 0, none⟩) c1 0 1) (N - 0) (c1 - 0), .bool true] = _
    rw [subA_zero]; rfl
end
abbrev metA : Value := .agg [Value.func (.func 49) #[] #[], Value.func (.func 50) #[] #[], Value.func (.func 63) #[] #[]].toArray
set_option maxHeartbeats 1000000 in
theorem methods_e (w : World) : Calls Try.prog 46 #[] w fun e w' => e = .returned metA ∧ Below w.heap.size w w' := by
  refine calls_wcG (args := []) [.cell 0 82] [] Try.func46 rfl Try.ntmps46 rfl rfl (H.refl _) ?_
  refine WC.seq fun K hK => ?_
  refine WC.region rfl ?_
  refine WL.want rfl (WL1.alloc rfl rfl rfl rfl (fun b0 => ?_))
  refine WL.nil ?_
  (refine hK _ _ ?_; clear hK)
  refine WC.seq fun K hK => ?_
  refine WC.region rfl ?_
  refine wG rfl rfl (g_build (cs := [_]) rfl rfl rfl rfl (.cons (.mk (v := .func _ _ _) rfl rfl) .nil) rfl rfl rfl) ?_
  refine wG rfl rfl (g_build (cs := [_]) rfl rfl rfl rfl (.cons (.mk (v := .func _ _ _) rfl rfl) .nil) rfl rfl rfl) ?_
  refine wG rfl rfl (g_build (cs := [_]) rfl rfl rfl rfl (.cons (.mk (v := .func _ _ _) rfl rfl) .nil) rfl rfl rfl) ?_
  refine wG rfl rfl (g_buildArrS (sz := 1) (us := [(0, [_]), (1, [_]), (2, [_])]) (cs := [_, _, _]) rfl rfl rfl rfl rfl (.cons (.mk (v := .agg _) rfl rfl) (.cons (.mk (v := .agg _) rfl rfl) (.cons (.mk (v := .agg _) rfl rfl) .nil))) rfl (fun p hp => by simp only [List.mem_cons, List.not_mem_nil, or_false] at hp; rcases hp with rfl | rfl | rfl <;> exact ⟨rfl, by decide⟩) rfl) ?_
  refine WL.want rfl (WL1.storeAll rfl rfl (.mk rfl rfl) (.mk rfl rfl) rfl (all1 rfl) (by first | rfl | (simp [Blk.len]; done)) (.head) ?_)
  refine WL.nil ?_
  (refine hK _ _ ?_; clear hK)
  refine WC.ret ?_
  exact ⟨_, .cell rfl rfl rfl rfl (.head _) .nil, fun w' hw' => ⟨rfl, hw'.1⟩⟩
end Go.Proofs.Ytnkbnponpknokaa
namespace Go.Proofs.Ytnkbnponpknokaa
set_option maxRecDepth 20000
open Go.RowKit
attribute [local irreducible] Calls
def upB (o : Option (List Nat)) (l : List Nat) (ok : Bool) : Option (List Nat) := if ok && (o.isNone || decide (l.length < (o.getD []).length)) then some l else o
def o1 (T : List Int) (bs : List Bool) : Option (List Nat) := upB none (numL (dP bs.length T) bs.length) (goodL (numL (dP bs.length T) bs.length) bs)
def o2 (T : List Int) (bs : List Bool) : Option (List Nat) := upB (o1 T bs) (numL (rP bs.length T) bs.length) (goodL (numL (rP bs.length T) bs.length) bs)
def o3 (N : Nat) (T : List Int) (bs : List Bool) : Option (List Nat) := upB (o2 T bs) ((numL (gP bs) bs.length).take N) true
def oS (N : Nat) (T : List Int) (bs : List Bool) : Nat → Option (List Nat)
  | 0 => none
  | 1 => o1 T bs
  | 2 => o2 T bs
  | _ => o3 N T bs
def okT (m : Int) (T : List Int) (i : Nat) : Prop := 0 ≤ nth T i ∧ nth T i < m - 3 ∧ (i = 0 ∨ nth T (i - 1) < nth T i)
set_option maxHeartbeats 4000000 in
theorem reads_n {w : World} {A B : Option Addr} {c d N : Nat} {T : List Int} {bs : List Bool} (hN : bs.length = N + 3) (h1 : 1 ≤ N) (h2 : N ≤ 13) (hs : Sl w 1 (.slice A T.length c) T.length (ivs T)) (hsb : Sl w 1 (.slice B bs.length d) bs.length (bls bs)) (hT : ∀ i, i < T.length → okT bs.length T i) (h0 : 0 < T.length) (hT2 : T.length ≤ 1000000)
    (hb3 : (numL (fun i => nth bs i) bs.length).length ≤ 3) (hg : N ≤ (numL (gP bs) bs.length).length) :
    Calls Try.prog 20 #[iv bs.length, .slice A T.length c, .slice B bs.length d] w fun e w' => ∃ v' M, e = .returned v' ∧ H w M w' ∧ ∃ A1 c1, v' = .tuple #[.slice A1 ((oS N T bs 3).getD []).length c1, iv 0] ∧ M = [vec A1 ((oS N T bs 3).getD []).length c1 3 1 (ldv ((oS N T bs 3).getD []))] := by
  have hsub : IntKind.i64.wrap ((bs.length : Int) - 3) = (bs.length : Int) - 3 := IntWalk.i64_in _ (by omega)
  have hval : ∀ w', Calls Try.prog 41 #[iv bs.length] w' fun e w2 => e = .returned (.bool true) ∧ Below w'.heap.size w' w2 := fun w' => by
    have := valid_i bs.length w'
    rwa [decide_eq_true (by omega)] at this
  refine calls_wc (args := [iv bs.length, .slice A T.length c, .slice B bs.length d]) [6, 7] [] Try.func20 rfl Try.ntmps20 rfl rfl rfl rfl (H.refl _) ?_
  refine WC.seq fun K hK => ?_
  refine WC.region rfl ?_
  refine WL.want rfl (WL1.box rfl rfl (.mk (v := .slice _ _ _) rfl rfl) rfl (fun b5 => ?_))
  refine wG rfl rfl (g_assign rfl (.mk (v := .slice _ _ _) rfl rfl)) ?_
  refine wG rfl rfl (g_assign rfl (.mk (v := .int _ _) rfl rfl)) ?_
  refine WL.nil ?_
  (refine hK _ _ ?_; clear hK)
  refine WC.seq fun K hK => ?_
  refine WC.seq fun K hK => ?_
  refine WC.region rfl ?_
  refine wG rfl rfl (g_move rfl (.mk (v := .int _ _) rfl rfl)) ?_
  refine WL.want rfl (WL1.callP rfl rfl rfl (.cons (.mk (v := .int _ _) rfl rfl) .nil) (fun w hw => hval w) ?_)
  refine wG rfl rfl (g_notT rfl (.mk rfl rfl)) ?_
  refine wG rfl rfl (g_move rfl (.mk (v := .bool _) rfl rfl)) ?_
  refine WL.wantG rfl rfl rfl rfl (WL1.give rfl (g_load rfl (.mk rfl rfl) rfl (rd_pt (by repeat (first | exact .head _ | apply List.Mem.tail)) rfl)) ?_)
  refine WL.wantG rfl rfl rfl rfl (WL1.give rfl (g_len rfl (.mk rfl rfl) rfl) ?_)
  refine WL.wantG rfl rfl rfl rfl (WL1.give rfl (g_move rfl (.mk (v := .int _ _) rfl rfl)) ?_)
  refine WL.wantG rfl rfl rfl rfl (WL1.give rfl (g_ne rfl (.mk rfl rfl) (.mk rfl rfl) (decide_eq_false (by omega))) ?_)
  refine wG rfl rfl (g_pickF rfl (.mk rfl rfl) (.mk (v := .bool _) rfl rfl)) ?_
  refine WL.nil ?_
  (refine hK _ _ ?_; clear hK)
  refine WC.cond_false (.mk rfl rfl) ?_
  refine WC.skip ?_
  (refine hK _ _ ?_; clear hK)
  refine WC.seq fun K hK => ?_
  refine WC.seq fun K hK => ?_
  refine WC.region rfl ?_
  refine wG rfl rfl (g_move rfl (.mk (v := .slice _ _ _) rfl rfl)) ?_
  refine wG rfl rfl (g_len rfl (.mk rfl rfl) rfl) ?_
  refine wG rfl rfl (g_move rfl (.mk (v := .int _ _) rfl rfl)) ?_
  refine WL.nil ?_
  (refine hK _ _ ?_; clear hK)
  refine WC.block ?_
  refine WC.loopF (fun i : Nat => [(27, iv i), (26, iv T.length), (25, .slice A T.length c), (0, iv bs.length), (1, .slice A T.length c), (5, cellPtr (some ⟨b5, 0, none⟩) 0)]) (fun _ => [pt b5 41 [.slice B bs.length d]]) (fun i => i ≤ T.length) (fun i => T.length - i) 0 (by repeat (first | exact trivial | refine ⟨rfl, ?_⟩)) (.refl _) (by omega) ?_
  intro i U hi
  by_cases hlt : i < T.length
  · have hgv := ivs_get (l := T) (k := i) hlt
    obtain ⟨q1, q2, q3⟩ := hT i hlt
    by_cases hi0 : i = 0
    · subst hi0
      refine WC.seq fun K hK => ?_
      refine WC.region rfl ?_
      refine wG rfl rfl (g_lt rfl (.mk rfl rfl) (.mk rfl rfl) (decide_eq_true (by omega))) ?_
      refine WL.nil ?_
      (refine hK _ _ ?_; clear hK)
      refine WC.seq fun K hK => ?_
      refine WC.cond_true (.mk rfl rfl) ?_
      refine WC.skip ?_
      (refine hK _ _ ?_; clear hK)
      refine WC.seq fun K hK => ?_
      refine WC.block ?_
      refine WC.seq fun K hK => ?_
      refine WC.region rfl ?_
      refine wG rfl rfl (g_move rfl (.mk (v := .int _ _) rfl rfl)) ?_
      refine wG rfl rfl (g_indexAddr (sz := 1) rfl (.mk rfl rfl) (.mk rfl rfl) rfl rfl (show _ = ((0 : Nat) : Int) from rfl) (by omega) (fun _ _ => sl_some hs (by omega))) ?_
      refine wG rfl rfl (g_load rfl (.mk rfl rfl) rfl (rd_sl hs hgv)) ?_
      refine wG rfl rfl (g_assign rfl (.mk (v := .int _ _) rfl rfl)) ?_
      refine wG rfl rfl (g_assign rfl (.mk (v := .int _ _) rfl rfl)) ?_
      refine WL.nil ?_
      (refine hK _ _ ?_; clear hK)
      refine WC.seq fun K hK => ?_
      refine WC.region rfl ?_
      refine wG rfl rfl (g_move rfl (.mk (v := .int _ _) rfl rfl)) ?_
      refine wG rfl rfl (g_lt rfl (.mk rfl rfl) (.mk rfl rfl) (decide_eq_false (by omega))) ?_
      refine wG rfl rfl (g_move rfl (.mk (v := .bool _) rfl rfl)) ?_
      refine WL.wantG rfl rfl rfl rfl (WL1.give rfl (g_move rfl (.mk (v := .int _ _) rfl rfl)) ?_)
      refine WL.wantG rfl rfl rfl rfl (WL1.give rfl (g_move rfl (.mk (v := .int _ _) rfl rfl)) ?_)
      refine WL.wantG rfl rfl rfl rfl (WL1.give rfl (g_sub rfl (.mk rfl rfl) (.mk rfl rfl) hsub) ?_)
      refine WL.wantG rfl rfl rfl rfl (WL1.give rfl (g_ge rfl (.mk rfl rfl) (.mk rfl rfl) (decide_eq_false (by omega))) ?_)
      refine wG rfl rfl (g_pickF rfl (.mk rfl rfl) (.mk (v := .bool _) rfl rfl)) ?_
      refine wG rfl rfl (g_move rfl (.mk (v := .bool _) rfl rfl)) ?_
      refine WL.wantG rfl rfl rfl rfl (WL1.give rfl (g_move rfl (.mk (v := .int _ _) rfl rfl)) ?_)
      refine WL.wantG rfl rfl rfl rfl (WL1.give rfl (g_gt rfl (.mk rfl rfl) (.mk rfl rfl) (decide_eq_false (by omega))) ?_)
      refine WL.wantG rfl rfl rfl rfl (WL1.give rfl (g_move rfl (.mk (v := .bool _) rfl rfl)) ?_)
      refine WL.skipG rfl rfl rfl rfl rfl rfl ?_
      refine WL.skipG rfl rfl rfl rfl rfl rfl ?_
      refine WL.skipG rfl rfl rfl rfl rfl rfl ?_
      refine WL.skipG rfl rfl rfl rfl rfl rfl ?_
      refine WL.skipG rfl rfl rfl rfl rfl rfl ?_
      refine WL.skipG rfl rfl rfl rfl rfl rfl ?_
      refine WL.skipG rfl rfl rfl rfl rfl rfl ?_
      refine WL.wantG rfl rfl rfl rfl (WL1.give rfl (g_pickF rfl (.mk rfl rfl) (.mk (v := .bool _) rfl rfl)) ?_)
      refine wG rfl rfl (g_pickF rfl (.mk rfl rfl) (.mk (v := .bool _) rfl rfl)) ?_
      refine WL.nil ?_
      (refine hK _ _ ?_; clear hK)
      refine WC.cond_false (.mk rfl rfl) ?_
      refine WC.skip ?_
      (refine hK _ _ ?_; clear hK)
      refine WC.region rfl ?_
      refine wG rfl rfl (g_add rfl (.mk rfl rfl) (.mk rfl rfl) (IntWalk.i64_in _ (by omega))) ?_
      refine wG rfl rfl (g_move rfl (.mk (v := .int _ _) rfl rfl)) ?_
      refine WL.nil ?_
      exact ⟨0 + 1, (by repeat (first | exact trivial | refine ⟨rfl, ?_⟩)), .refl _, by omega, by omega⟩
    · have hsb1 : IntKind.i64.wrap ((i : Int) - 1) = ((i - 1 : Nat) : Int) := by rw [IntWalk.i64_in _ (by omega)]; omega
      have hgv2 := ivs_get (l := T) (k := i - 1) (by omega)
      have q4 := q3.resolve_left hi0
      refine WC.seq fun K hK => ?_
      refine WC.region rfl ?_
      refine wG rfl rfl (g_lt rfl (.mk rfl rfl) (.mk rfl rfl) (decide_eq_true (by omega))) ?_
      refine WL.nil ?_
      (refine hK _ _ ?_; clear hK)
      refine WC.seq fun K hK => ?_
      refine WC.cond_true (.mk rfl rfl) ?_
      refine WC.skip ?_
      (refine hK _ _ ?_; clear hK)
      refine WC.seq fun K hK => ?_
      refine WC.block ?_
      refine WC.seq fun K hK => ?_
      refine WC.region rfl ?_
      refine wG rfl rfl (g_move rfl (.mk (v := .int _ _) rfl rfl)) ?_
      refine wG rfl rfl (g_indexAddr (sz := 1) rfl (.mk rfl rfl) (.mk rfl rfl) rfl rfl rfl (by omega) (fun _ _ => sl_some hs (by omega))) ?_
      refine wG rfl rfl (g_load rfl (.mk rfl rfl) rfl (rd_sl hs hgv)) ?_
      refine wG rfl rfl (g_assign rfl (.mk (v := .int _ _) rfl rfl)) ?_
      refine wG rfl rfl (g_assign rfl (.mk (v := .int _ _) rfl rfl)) ?_
      refine WL.nil ?_
      (refine hK _ _ ?_; clear hK)
      refine WC.seq fun K hK => ?_
      refine WC.region rfl ?_
      refine wG rfl rfl (g_move rfl (.mk (v := .int _ _) rfl rfl)) ?_
      refine wG rfl rfl (g_lt rfl (.mk rfl rfl) (.mk rfl rfl) (decide_eq_false (by omega))) ?_
      refine wG rfl rfl (g_move rfl (.mk (v := .bool _) rfl rfl)) ?_
      refine WL.wantG rfl rfl rfl rfl (WL1.give rfl (g_move rfl (.mk (v := .int _ _) rfl rfl)) ?_)
      refine WL.wantG rfl rfl rfl rfl (WL1.give rfl (g_move rfl (.mk (v := .int _ _) rfl rfl)) ?_)
      refine WL.wantG rfl rfl rfl rfl (WL1.give rfl (g_sub rfl (.mk rfl rfl) (.mk rfl rfl) hsub) ?_)
      refine WL.wantG rfl rfl rfl rfl (WL1.give rfl (g_ge rfl (.mk rfl rfl) (.mk rfl rfl) (decide_eq_false (by omega))) ?_)
      refine wG rfl rfl (g_pickF rfl (.mk rfl rfl) (.mk (v := .bool _) rfl rfl)) ?_
      refine wG rfl rfl (g_move rfl (.mk (v := .bool _) rfl rfl)) ?_
      refine WL.wantG rfl rfl rfl rfl (WL1.give rfl (g_move rfl (.mk (v := .int _ _) rfl rfl)) ?_)
      refine WL.wantG rfl rfl rfl rfl (WL1.give rfl (g_gt rfl (.mk rfl rfl) (.mk rfl rfl) (decide_eq_true (by omega))) ?_)
      refine WL.wantG rfl rfl rfl rfl (WL1.give rfl (g_move rfl (.mk (v := .bool _) rfl rfl)) ?_)
      refine WL.wantG rfl rfl rfl rfl (WL1.give rfl (g_move rfl (.mk (v := .int _ _) rfl rfl)) ?_)
      refine WL.wantG rfl rfl rfl rfl (WL1.give rfl (g_move rfl (.mk (v := .slice _ _ _) rfl rfl)) ?_)
      refine WL.wantG rfl rfl rfl rfl (WL1.give rfl (g_move rfl (.mk (v := .int _ _) rfl rfl)) ?_)
      refine WL.wantG rfl rfl rfl rfl (WL1.give rfl (g_sub rfl (.mk rfl rfl) (.mk rfl rfl) hsb1) ?_)
      refine WL.wantG rfl rfl rfl rfl (WL1.give rfl (g_indexAddr (sz := 1) rfl (.mk rfl rfl) (.mk rfl rfl) rfl rfl rfl (by omega) (fun _ _ => sl_some hs (by omega))) ?_)
      refine WL.wantG rfl rfl rfl rfl (WL1.give rfl (g_load rfl (.mk rfl rfl) rfl (rd_sl hs hgv2)) ?_)
      refine WL.wantG rfl rfl rfl rfl (WL1.give rfl (g_le rfl (.mk rfl rfl) (.mk rfl rfl) (decide_eq_false (by omega))) ?_)
      refine WL.wantG rfl rfl rfl rfl (WL1.give rfl (g_pickT rfl (.mk rfl rfl) (.mk (v := .bool _) rfl rfl)) ?_)
      refine wG rfl rfl (g_pickF rfl (.mk rfl rfl) (.mk (v := .bool _) rfl rfl)) ?_
      refine WL.nil ?_
      (refine hK _ _ ?_; clear hK)
      refine WC.cond_false (.mk rfl rfl) ?_
      refine WC.skip ?_
      (refine hK _ _ ?_; clear hK)
      refine WC.region rfl ?_
      refine wG rfl rfl (g_add rfl (.mk rfl rfl) (.mk rfl rfl) (IntWalk.i64_in _ (by omega))) ?_
      refine wG rfl rfl (g_move rfl (.mk (v := .int _ _) rfl rfl)) ?_
      refine WL.nil ?_
      exact ⟨i + 1, (by repeat (first | exact trivial | refine ⟨rfl, ?_⟩)), .refl _, by omega, by omega⟩
  · obtain rfl : i = T.length := by omega
    refine WC.seq fun K hK => ?_
    refine WC.region rfl ?_
    refine wG rfl rfl (g_lt rfl (.mk rfl rfl) (.mk rfl rfl) (decide_eq_false (by omega))) ?_
    refine WL.nil ?_
    (refine hK _ _ ?_; clear hK)
    refine WC.seq fun K hK => ?_
    refine WC.cond_false (.mk rfl rfl) ?_
    refine WC.exit ?_
    (clear hK; refine hK _ _ ?_; clear hK)
    refine WC.seq fun K hK => ?_
    refine WC.seq fun K hK => ?_
    refine WC.region rfl ?_
    refine wG rfl rfl (g_move rfl (.mk (v := .int _ _) rfl rfl)) ?_
    refine wG rfl rfl (g_makeFunc rfl (.cons (.mk (v := cellPtr _ _) rfl rfl) .nil)) ?_
    (refine WL.want rfl (WL1.callN rfl rfl rfl (.cons (.mk (v := .int _ _) rfl rfl) (.cons (.mk (v := .func _ _ _) rfl rfl) .nil)) (fun w hw => numbers_n _ [cellPtr (some ⟨b5, 0, none⟩) 0] (fun i => nth bs i) bs.length w (pred_reads (cell_pt hw (by repeat (first | exact .head _ | apply List.Mem.tail)) rfl) (hsb.below hw.1)) (by omega)) ?_); rintro _ _ ⟨Ab, cb, rfl, rfl⟩)
    refine wG rfl rfl (g_len rfl (.mk rfl rfl) rfl) ?_
    refine wG rfl rfl (g_gt rfl (.mk rfl rfl) (.mk rfl rfl) (decide_eq_false (by omega))) ?_
    refine WL.nil ?_
    (refine hK _ _ ?_; clear hK)
    refine WC.cond_false (.mk rfl rfl) ?_
    refine WC.skip ?_
    (refine hK _ _ ?_; clear hK)
    refine WC.seq fun K hK => ?_
    refine WC.seq fun K hK => ?_
    refine WC.region rfl ?_
    refine wG rfl rfl (g_move rfl (.mk (v := .slice _ _ _) rfl rfl)) ?_
    refine wG rfl rfl (g_len rfl (.mk rfl rfl) rfl) ?_
    refine wG rfl rfl (g_eq rfl (.mk rfl rfl) (.mk rfl rfl) (decide_eq_false (by omega))) ?_
    refine WL.nil ?_
    (refine hK _ _ ?_; clear hK)
    refine WC.cond_false (.mk rfl rfl) ?_
    refine WC.skip ?_
    (refine hK _ _ ?_; clear hK)
    refine WC.seq fun K hK => ?_
    refine WC.region rfl ?_
    refine wG rfl rfl (g_assign rfl (.mk (v := .slice _ _ _) rfl rfl)) ?_
    refine WL.nil ?_
    (refine hK _ _ ?_; clear hK)
    refine WC.seq fun K hK => ?_
    refine WC.region rfl ?_
    refine wG rfl rfl (g_assign rfl (.mk (v := .bool _) rfl rfl)) ?_
    refine WL.nil ?_
    (refine hK _ _ ?_; clear hK)
    refine WC.seq fun K hK => ?_
    refine WC.seq fun K hK => ?_
    refine WC.region rfl ?_
    refine WL.want rfl (WL1.callP rfl rfl rfl .nil (fun w hw => methods_e w) ?_)
    refine wG rfl rfl (g_move rfl (.mk (v := .int _ _) rfl rfl)) ?_
    refine WL.nil ?_
    (refine hK _ _ ?_; clear hK)
    refine WC.block ?_
    refine WC.nilvec 3 1 ?_
    refine WC.loopF4 (fun (i : Nat) (o : Option (List Nat)) (A1 : Option Addr) (c1 : Nat) => [(63, iv i), (62, metA), (10, .slice A1 (o.getD []).length c1), (11, .bool o.isSome), (0, iv bs.length), (1, .slice A T.length c), (5, cellPtr (some ⟨b5, 0, none⟩) 0)]) (fun _ o A1 c1 => [vec A1 (o.getD []).length c1 3 1 (ldv (o.getD [])), pt b5 41 [.slice B bs.length d]]) (fun i o _ _ => i ≤ 3 ∧ o = oS N T bs i) (fun i _ _ _ => 3 - i) 0 none none 0 (by repeat (first | exact trivial | refine ⟨rfl, ?_⟩)) (Imp.pick (A := vec none 0 0 3 1 []) (by repeat (first | exact .head | apply Take.tail)) (Imp.pick (by repeat (first | exact .head | apply Take.tail)) (Imp.nil _))) ⟨by omega, rfl⟩ ?_
    rintro i o A1 c1 U2 ⟨hi, ho⟩
    by_cases hlt2 : i < 3
    · obtain ⟨f, l, ok, hf, hok, hcl, hnx⟩ : ∃ (f : FuncId) (l : List Nat) (ok : Bool), (([Value.func (.func 49) #[] #[], Value.func (.func 50) #[] #[], Value.func (.func 63) #[] #[]].drop (i * 1)).take 1 = [Value.func (.func f) #[] #[]]) ∧ callable Try.prog f = true ∧ (∀ w', Below w.heap.size w w' → Calls Try.prog f #[iv bs.length, .slice A T.length c, .slice B bs.length d] w' fun e w2 => ∃ v' M, e = .returned v' ∧ H w' M w2 ∧ ∃ A1 c1, v' = .tuple #[.slice A1 l.length c1, .bool ok] ∧ M = [vec A1 l.length c1 3 1 (ldv l)]) ∧ oS N T bs (i + 1) = upB (oS N T bs i) l ok := by
        rcases (by omega : i = 0 ∨ i = 1 ∨ i = 2) with rfl | rfl | rfl
        · exact ⟨_, _, _, rfl, by kernel_rfl, fun w' hb => delta_n (by omega) (hs.below hb) (hsb.below hb), rfl⟩
        · exact ⟨_, _, _, rfl, by kernel_rfl, fun w' hb => recompute_n (by omega) (hs.below hb) (hsb.below hb), rfl⟩
        · refine ⟨_, (numL (gP bs) bs.length).take N, _, rfl, by kernel_rfl, fun w' hb => ?_, rfl⟩
          have htl : ((numL (gP bs) bs.length).take N).length = N := by rw [List.length_take]; omega
          rw [htl]
          exact first_n hN h1 h2 hg (hsb.below hb)
      rw [← ho] at hnx
      clear ho hT hs hsb hb3 hg hsub hval
      cases ok with
      | false =>
        have hst : oS N T bs (i + 1) = o := hnx
        refine WC.seq fun K hK => ?_
        refine WC.region rfl ?_
        refine wG rfl rfl (g_lt rfl (.mk rfl rfl) (.mk rfl rfl) (decide_eq_true (by omega))) ?_
        refine WL.nil ?_
        (refine hK _ _ ?_; clear hK)
        refine WC.seq fun K hK => ?_
        refine WC.cond_true (.mk rfl rfl) ?_
        refine WC.skip ?_
        (refine hK _ _ ?_; clear hK)
        refine WC.seq fun K hK => ?_
        refine WC.block ?_
        refine WC.seq fun K hK => ?_
        refine WC.region rfl ?_
        refine wG rfl rfl (g_indexG (sz := 1) rfl (.mk rfl rfl) (.mk rfl rfl) rfl rfl rfl rfl hlt2 (by show i * 1 + 1 ≤ 3; omega) hf) ?_
        refine WL.want rfl (WL1.alloc rfl rfl rfl rfl (fun b13 => ?_))
        refine WL.want rfl (WL1.storeAll rfl rfl (.mk rfl rfl) (.mk rfl rfl) rfl (all1 rfl) (by first | rfl | (simp [Blk.len]; done)) (.head) ?_)
        refine WL.nil ?_
        (refine hK _ _ ?_; clear hK)
        refine WC.seq fun K hK => ?_
        refine WC.region rfl ?_
        refine wG rfl rfl (g_fieldAddr (off := 0) rfl (.mk rfl rfl) rfl (fun _ _ => rfl)) ?_
        refine wG rfl rfl (g_load rfl (.mk rfl rfl) rfl (rd_pt (by repeat (first | exact .head _ | apply List.Mem.tail)) rfl)) ?_
        refine wG rfl rfl (g_move rfl (.mk (v := .int _ _) rfl rfl)) ?_
        refine wG rfl rfl (g_move rfl (.mk (v := .slice _ _ _) rfl rfl)) ?_
        refine wG rfl rfl (g_load rfl (.mk rfl rfl) rfl (rd_pt (by repeat (first | exact .head _ | apply List.Mem.tail)) rfl)) ?_
        (refine WL.want rfl (WL1.callVN rfl rfl (.mk rfl rfl) (by first | assumption | rfl | kernel_rfl) (.cons (.mk (v := .int _ _) rfl rfl) (.cons (.mk (v := .slice _ _ _) rfl rfl) (.cons (.mk (v := .slice _ _ _) rfl rfl) .nil))) (fun w hw => hcl w hw.1) ?_); rintro _ _ ⟨A2, c2, rfl, rfl⟩)
        refine wG rfl rfl (g_move rfl (.mk (v := .tuple _) rfl rfl)) ?_
        refine wG rfl rfl (g_extract rfl (.mk rfl rfl) rfl) ?_
        refine wG rfl rfl (g_extract rfl (.mk rfl rfl) rfl) ?_
        refine wG rfl rfl (g_assign rfl (.mk (v := .slice _ _ _) rfl rfl)) ?_
        refine wG rfl rfl (g_assign rfl (.mk (v := .bool _) rfl rfl)) ?_
        refine WL.nil ?_
        (refine hK _ _ ?_; clear hK)
        refine WC.seq fun K hK => ?_
        refine WC.region rfl ?_
        refine wG rfl rfl (g_move rfl (.mk (v := .bool _) rfl rfl)) ?_
        refine wG rfl rfl (g_move rfl (.mk (v := .bool _) rfl rfl)) ?_
        refine WL.skipG rfl rfl rfl rfl rfl rfl ?_
        refine WL.skipG rfl rfl rfl rfl rfl rfl ?_
        refine WL.skipG rfl rfl rfl rfl rfl rfl ?_
        refine WL.skipU rfl rfl rfl rfl rfl ?_
        refine WL.skipU rfl rfl rfl rfl rfl ?_
        refine WL.skipU rfl rfl rfl rfl rfl ?_
        refine WL.skipU rfl rfl rfl rfl rfl ?_
        refine WL.skipU rfl rfl rfl rfl rfl ?_
        refine WL.skipG rfl rfl rfl rfl rfl rfl ?_
        refine wG rfl rfl (g_pickF rfl (.mk rfl rfl) (.mk (v := .bool _) rfl rfl)) ?_
        refine WL.nil ?_
        (refine hK _ _ ?_; clear hK)
        refine WC.cond_false (.mk rfl rfl) ?_
        refine WC.skip ?_
        (refine hK _ _ ?_; clear hK)
        refine WC.region rfl ?_
        refine wG rfl rfl (g_add rfl (.mk rfl rfl) (.mk rfl rfl) (IntWalk.i64_in _ (by omega))) ?_
        refine wG rfl rfl (g_move rfl (.mk (v := .int _ _) rfl rfl)) ?_
        refine WL.nil ?_
        exact ⟨i + 1, o, A1, c1, (by repeat (first | exact trivial | refine ⟨rfl, ?_⟩)), Imp.pick (by repeat (first | exact .head | apply Take.tail)) (Imp.pick (by repeat (first | exact .head | apply Take.tail)) (Imp.nil _)), ⟨by omega, hst.symm⟩, by omega⟩
      | true =>
        cases o with
        | none =>
          have hst : oS N T bs (i + 1) = some l := hnx
          refine WC.seq fun K hK => ?_
          refine WC.region rfl ?_
          refine wG rfl rfl (g_lt rfl (.mk rfl rfl) (.mk rfl rfl) (decide_eq_true (by omega))) ?_
          refine WL.nil ?_
          (refine hK _ _ ?_; clear hK)
          refine WC.seq fun K hK => ?_
          refine WC.cond_true (.mk rfl rfl) ?_
          refine WC.skip ?_
          (refine hK _ _ ?_; clear hK)
          refine WC.seq fun K hK => ?_
          refine WC.block ?_
          refine WC.seq fun K hK => ?_
          refine WC.region rfl ?_
          refine wG rfl rfl (g_indexG (sz := 1) rfl (.mk rfl rfl) (.mk rfl rfl) rfl rfl rfl rfl hlt2 (by show i * 1 + 1 ≤ 3; omega) hf) ?_
          refine WL.want rfl (WL1.alloc rfl rfl rfl rfl (fun b13 => ?_))
          refine WL.want rfl (WL1.storeAll rfl rfl (.mk rfl rfl) (.mk rfl rfl) rfl (all1 rfl) (by first | rfl | (simp [Blk.len]; done)) (.head) ?_)
          refine WL.nil ?_
          (refine hK _ _ ?_; clear hK)
          refine WC.seq fun K hK => ?_
          refine WC.region rfl ?_
          refine wG rfl rfl (g_fieldAddr (off := 0) rfl (.mk rfl rfl) rfl (fun _ _ => rfl)) ?_
          refine wG rfl rfl (g_load rfl (.mk rfl rfl) rfl (rd_pt (by repeat (first | exact .head _ | apply List.Mem.tail)) rfl)) ?_
          refine wG rfl rfl (g_move rfl (.mk (v := .int _ _) rfl rfl)) ?_
          refine wG rfl rfl (g_move rfl (.mk (v := .slice _ _ _) rfl rfl)) ?_
          refine wG rfl rfl (g_load rfl (.mk rfl rfl) rfl (rd_pt (by repeat (first | exact .head _ | apply List.Mem.tail)) rfl)) ?_
          (refine WL.want rfl (WL1.callVN rfl rfl (.mk rfl rfl) (by first | assumption | rfl | kernel_rfl) (.cons (.mk (v := .int _ _) rfl rfl) (.cons (.mk (v := .slice _ _ _) rfl rfl) (.cons (.mk (v := .slice _ _ _) rfl rfl) .nil))) (fun w hw => hcl w hw.1) ?_); rintro _ _ ⟨A2, c2, rfl, rfl⟩)
          refine wG rfl rfl (g_move rfl (.mk (v := .tuple _) rfl rfl)) ?_
          refine wG rfl rfl (g_extract rfl (.mk rfl rfl) rfl) ?_
          refine wG rfl rfl (g_extract rfl (.mk rfl rfl) rfl) ?_
          refine wG rfl rfl (g_assign rfl (.mk (v := .slice _ _ _) rfl rfl)) ?_
          refine wG rfl rfl (g_assign rfl (.mk (v := .bool _) rfl rfl)) ?_
          refine WL.nil ?_
          (refine hK _ _ ?_; clear hK)
          refine WC.seq fun K hK => ?_
          refine WC.region rfl ?_
          refine wG rfl rfl (g_move rfl (.mk (v := .bool _) rfl rfl)) ?_
          refine wG rfl rfl (g_move rfl (.mk (v := .bool _) rfl rfl)) ?_
          refine WL.wantG rfl rfl rfl rfl (WL1.give rfl (g_move rfl (.mk (v := .bool _) rfl rfl)) ?_)
          refine WL.wantG rfl rfl rfl rfl (WL1.give rfl (g_notF rfl (.mk rfl rfl)) ?_)
          refine WL.wantG rfl rfl rfl rfl (WL1.give rfl (g_move rfl (.mk (v := .bool _) rfl rfl)) ?_)
          refine WL.skipG rfl rfl rfl rfl rfl rfl ?_
          refine WL.skipG rfl rfl rfl rfl rfl rfl ?_
          refine WL.skipG rfl rfl rfl rfl rfl rfl ?_
          refine WL.skipG rfl rfl rfl rfl rfl rfl ?_
          refine WL.skipG rfl rfl rfl rfl rfl rfl ?_
          refine WL.wantG rfl rfl rfl rfl (WL1.give rfl (g_pickT rfl (.mk rfl rfl) (.mk (v := .bool _) rfl rfl)) ?_)
          refine wG rfl rfl (g_pickT rfl (.mk rfl rfl) (.mk (v := .bool _) rfl rfl)) ?_
          refine WL.nil ?_
          (refine hK _ _ ?_; clear hK)
          refine WC.cond_true (.mk rfl rfl) ?_
          refine WC.region rfl ?_
          refine wG rfl rfl (g_move rfl (.mk (v := .slice _ _ _) rfl rfl)) ?_
          refine wG rfl rfl (g_assign rfl (.mk (v := .slice _ _ _) rfl rfl)) ?_
          refine wG rfl rfl (g_assign rfl (.mk (v := .bool _) rfl rfl)) ?_
          refine WL.nil ?_
          (refine hK _ _ ?_; clear hK)
          refine WC.region rfl ?_
          refine wG rfl rfl (g_add rfl (.mk rfl rfl) (.mk rfl rfl) (IntWalk.i64_in _ (by omega))) ?_
          refine wG rfl rfl (g_move rfl (.mk (v := .int _ _) rfl rfl)) ?_
          refine WL.nil ?_
          exact ⟨i + 1, some l, A2, c2, (by repeat (first | exact trivial | refine ⟨rfl, ?_⟩)), Imp.pick (by repeat (first | exact .head | apply Take.tail)) (Imp.pick (by repeat (first | exact .head | apply Take.tail)) (Imp.nil _)), ⟨by omega, hst.symm⟩, by omega⟩
        | some b =>
          by_cases hlb : l.length < b.length
          · have hst : oS N T bs (i + 1) = some l := hnx.trans (by show (if (decide (l.length < b.length)) = true then some l else some b) = _; rw [decide_eq_true hlb, if_pos rfl])
            have hlb' : l.length < ((some b).getD ([] : List Nat)).length := hlb
            refine WC.seq fun K hK => ?_
            refine WC.region rfl ?_
            refine wG rfl rfl (g_lt rfl (.mk rfl rfl) (.mk rfl rfl) (decide_eq_true (by omega))) ?_
            refine WL.nil ?_
            (refine hK _ _ ?_; clear hK)
            refine WC.seq fun K hK => ?_
            refine WC.cond_true (.mk rfl rfl) ?_
            refine WC.skip ?_
            (refine hK _ _ ?_; clear hK)
            refine WC.seq fun K hK => ?_
            refine WC.block ?_
            refine WC.seq fun K hK => ?_
            refine WC.region rfl ?_
            refine wG rfl rfl (g_indexG (sz := 1) rfl (.mk rfl rfl) (.mk rfl rfl) rfl rfl rfl rfl hlt2 (by show i * 1 + 1 ≤ 3; omega) hf) ?_
            refine WL.want rfl (WL1.alloc rfl rfl rfl rfl (fun b13 => ?_))
            refine WL.want rfl (WL1.storeAll rfl rfl (.mk rfl rfl) (.mk rfl rfl) rfl (all1 rfl) (by first | rfl | (simp [Blk.len]; done)) (.head) ?_)
            refine WL.nil ?_
            (refine hK _ _ ?_; clear hK)
            refine WC.seq fun K hK => ?_
            refine WC.region rfl ?_
            refine wG rfl rfl (g_fieldAddr (off := 0) rfl (.mk rfl rfl) rfl (fun _ _ => rfl)) ?_
            refine wG rfl rfl (g_load rfl (.mk rfl rfl) rfl (rd_pt (by repeat (first | exact .head _ | apply List.Mem.tail)) rfl)) ?_
            refine wG rfl rfl (g_move rfl (.mk (v := .int _ _) rfl rfl)) ?_
            refine wG rfl rfl (g_move rfl (.mk (v := .slice _ _ _) rfl rfl)) ?_
            refine wG rfl rfl (g_load rfl (.mk rfl rfl) rfl (rd_pt (by repeat (first | exact .head _ | apply List.Mem.tail)) rfl)) ?_
            (refine WL.want rfl (WL1.callVN rfl rfl (.mk rfl rfl) (by first | assumption | rfl | kernel_rfl) (.cons (.mk (v := .int _ _) rfl rfl) (.cons (.mk (v := .slice _ _ _) rfl rfl) (.cons (.mk (v := .slice _ _ _) rfl rfl) .nil))) (fun w hw => hcl w hw.1) ?_); rintro _ _ ⟨A2, c2, rfl, rfl⟩)
            refine wG rfl rfl (g_move rfl (.mk (v := .tuple _) rfl rfl)) ?_
            refine wG rfl rfl (g_extract rfl (.mk rfl rfl) rfl) ?_
            refine wG rfl rfl (g_extract rfl (.mk rfl rfl) rfl) ?_
            refine wG rfl rfl (g_assign rfl (.mk (v := .slice _ _ _) rfl rfl)) ?_
            refine wG rfl rfl (g_assign rfl (.mk (v := .bool _) rfl rfl)) ?_
            refine WL.nil ?_
            (refine hK _ _ ?_; clear hK)
            refine WC.seq fun K hK => ?_
            refine WC.region rfl ?_
            refine wG rfl rfl (g_move rfl (.mk (v := .bool _) rfl rfl)) ?_
            refine wG rfl rfl (g_move rfl (.mk (v := .bool _) rfl rfl)) ?_
            refine WL.wantG rfl rfl rfl rfl (WL1.give rfl (g_move rfl (.mk (v := .bool _) rfl rfl)) ?_)
            refine WL.wantG rfl rfl rfl rfl (WL1.give rfl (g_notT rfl (.mk rfl rfl)) ?_)
            refine WL.wantG rfl rfl rfl rfl (WL1.give rfl (g_move rfl (.mk (v := .bool _) rfl rfl)) ?_)
            refine WL.wantG rfl rfl rfl rfl (WL1.give rfl (g_move rfl (.mk (v := .slice _ _ _) rfl rfl)) ?_)
            refine WL.wantG rfl rfl rfl rfl (WL1.give rfl (g_len rfl (.mk rfl rfl) rfl) ?_)
            refine WL.wantG rfl rfl rfl rfl (WL1.give rfl (g_move rfl (.mk (v := .slice _ _ _) rfl rfl)) ?_)
            refine WL.wantG rfl rfl rfl rfl (WL1.give rfl (g_len rfl (.mk rfl rfl) rfl) ?_)
            refine WL.wantG rfl rfl rfl rfl (WL1.give rfl (g_lt rfl (.mk rfl rfl) (.mk rfl rfl) (decide_eq_true (by omega))) ?_)
            refine WL.wantG rfl rfl rfl rfl (WL1.give rfl (g_pickF rfl (.mk rfl rfl) (.mk (v := .bool _) rfl rfl)) ?_)
            refine wG rfl rfl (g_pickT rfl (.mk rfl rfl) (.mk (v := .bool _) rfl rfl)) ?_
            refine WL.nil ?_
            (refine hK _ _ ?_; clear hK)
            refine WC.cond_true (.mk rfl rfl) ?_
            refine WC.region rfl ?_
            refine wG rfl rfl (g_move rfl (.mk (v := .slice _ _ _) rfl rfl)) ?_
            refine wG rfl rfl (g_assign rfl (.mk (v := .slice _ _ _) rfl rfl)) ?_
            refine wG rfl rfl (g_assign rfl (.mk (v := .bool _) rfl rfl)) ?_
            refine WL.nil ?_
            (refine hK _ _ ?_; clear hK)
            refine WC.region rfl ?_
            refine wG rfl rfl (g_add rfl (.mk rfl rfl) (.mk rfl rfl) (IntWalk.i64_in _ (by omega))) ?_
            refine wG rfl rfl (g_move rfl (.mk (v := .int _ _) rfl rfl)) ?_
            refine WL.nil ?_
            exact ⟨i + 1, some l, A2, c2, (by repeat (first | exact trivial | refine ⟨rfl, ?_⟩)), Imp.pick (by repeat (first | exact .head | apply Take.tail)) (Imp.pick (by repeat (first | exact .head | apply Take.tail)) (Imp.nil _)), ⟨by omega, hst.symm⟩, by omega⟩
          · have hst : oS N T bs (i + 1) = some b := hnx.trans (by show (if (decide (l.length < b.length)) = true then some l else some b) = _; rw [decide_eq_false hlb, if_neg Bool.false_ne_true])
            have hlb' : ¬ l.length < ((some b).getD ([] : List Nat)).length := hlb
            refine WC.seq fun K hK => ?_
            refine WC.region rfl ?_
            refine wG rfl rfl (g_lt rfl (.mk rfl rfl) (.mk rfl rfl) (decide_eq_true (by omega))) ?_
            refine WL.nil ?_
            (refine hK _ _ ?_; clear hK)
            refine WC.seq fun K hK => ?_
            refine WC.cond_true (.mk rfl rfl) ?_
            refine WC.skip ?_
            (refine hK _ _ ?_; clear hK)
            refine WC.seq fun K hK => ?_
            refine WC.block ?_
            refine WC.seq fun K hK => ?_
            refine WC.region rfl ?_
            refine wG rfl rfl (g_indexG (sz := 1) rfl (.mk rfl rfl) (.mk rfl rfl) rfl rfl rfl rfl hlt2 (by show i * 1 + 1 ≤ 3; omega) hf) ?_
            refine WL.want rfl (WL1.alloc rfl rfl rfl rfl (fun b13 => ?_))
            refine WL.want rfl (WL1.storeAll rfl rfl (.mk rfl rfl) (.mk rfl rfl) rfl (all1 rfl) (by first | rfl | (simp [Blk.len]; done)) (.head) ?_)
            refine WL.nil ?_
            (refine hK _ _ ?_; clear hK)
            refine WC.seq fun K hK => ?_
            refine WC.region rfl ?_
            refine wG rfl rfl (g_fieldAddr (off := 0) rfl (.mk rfl rfl) rfl (fun _ _ => rfl)) ?_
            refine wG rfl rfl (g_load rfl (.mk rfl rfl) rfl (rd_pt (by repeat (first | exact .head _ | apply List.Mem.tail)) rfl)) ?_
            refine wG rfl rfl (g_move rfl (.mk (v := .int _ _) rfl rfl)) ?_
            refine wG rfl rfl (g_move rfl (.mk (v := .slice _ _ _) rfl rfl)) ?_
            refine wG rfl rfl (g_load rfl (.mk rfl rfl) rfl (rd_pt (by repeat (first | exact .head _ | apply List.Mem.tail)) rfl)) ?_
            (refine WL.want rfl (WL1.callVN rfl rfl (.mk rfl rfl) (by first | assumption | rfl | kernel_rfl) (.cons (.mk (v := .int _ _) rfl rfl) (.cons (.mk (v := .slice _ _ _) rfl rfl) (.cons (.mk (v := .slice _ _ _) rfl rfl) .nil))) (fun w hw => hcl w hw.1) ?_); rintro _ _ ⟨A2, c2, rfl, rfl⟩)
            refine wG rfl rfl (g_move rfl (.mk (v := .tuple _) rfl rfl)) ?_
            refine wG rfl rfl (g_extract rfl (.mk rfl rfl) rfl) ?_
            refine wG rfl rfl (g_extract rfl (.mk rfl rfl) rfl) ?_
            refine wG rfl rfl (g_assign rfl (.mk (v := .slice _ _ _) rfl rfl)) ?_
            refine wG rfl rfl (g_assign rfl (.mk (v := .bool _) rfl rfl)) ?_
            refine WL.nil ?_
            (refine hK _ _ ?_; clear hK)
            refine WC.seq fun K hK => ?_
            refine WC.region rfl ?_
            refine wG rfl rfl (g_move rfl (.mk (v := .bool _) rfl rfl)) ?_
            refine wG rfl rfl (g_move rfl (.mk (v := .bool _) rfl rfl)) ?_
            refine WL.wantG rfl rfl rfl rfl (WL1.give rfl (g_move rfl (.mk (v := .bool _) rfl rfl)) ?_)
            refine WL.wantG rfl rfl rfl rfl (WL1.give rfl (g_notT rfl (.mk rfl rfl)) ?_)
            refine WL.wantG rfl rfl rfl rfl (WL1.give rfl (g_move rfl (.mk (v := .bool _) rfl rfl)) ?_)
            refine WL.wantG rfl rfl rfl rfl (WL1.give rfl (g_move rfl (.mk (v := .slice _ _ _) rfl rfl)) ?_)
            refine WL.wantG rfl rfl rfl rfl (WL1.give rfl (g_len rfl (.mk rfl rfl) rfl) ?_)
            refine WL.wantG rfl rfl rfl rfl (WL1.give rfl (g_move rfl (.mk (v := .slice _ _ _) rfl rfl)) ?_)
            refine WL.wantG rfl rfl rfl rfl (WL1.give rfl (g_len rfl (.mk rfl rfl) rfl) ?_)
            refine WL.wantG rfl rfl rfl rfl (WL1.give rfl (g_lt rfl (.mk rfl rfl) (.mk rfl rfl) (decide_eq_false (by omega))) ?_)
            refine WL.wantG rfl rfl rfl rfl (WL1.give rfl (g_pickF rfl (.mk rfl rfl) (.mk (v := .bool _) rfl rfl)) ?_)
            refine wG rfl rfl (g_pickT rfl (.mk rfl rfl) (.mk (v := .bool _) rfl rfl)) ?_
            refine WL.nil ?_
            (refine hK _ _ ?_; clear hK)
            refine WC.cond_false (.mk rfl rfl) ?_
            refine WC.skip ?_
            (refine hK _ _ ?_; clear hK)
            refine WC.region rfl ?_
            refine wG rfl rfl (g_add rfl (.mk rfl rfl) (.mk rfl rfl) (IntWalk.i64_in _ (by omega))) ?_
            refine wG rfl rfl (g_move rfl (.mk (v := .int _ _) rfl rfl)) ?_
            refine WL.nil ?_
            exact ⟨i + 1, some b, A1, c1, (by repeat (first | exact trivial | refine ⟨rfl, ?_⟩)), Imp.pick (by repeat (first | exact .head | apply Take.tail)) (Imp.pick (by repeat (first | exact .head | apply Take.tail)) (Imp.nil _)), ⟨by omega, hst.symm⟩, by omega⟩
    · obtain rfl : i = 3 := by omega
      subst ho
      refine WC.seq fun K hK => ?_
      refine WC.region rfl ?_
      refine wG rfl rfl (g_lt rfl (.mk rfl rfl) (.mk rfl rfl) (decide_eq_false (by omega))) ?_
      refine WL.nil ?_
      (refine hK _ _ ?_; clear hK)
      refine WC.seq fun K hK => ?_
      refine WC.cond_false (.mk rfl rfl) ?_
      refine WC.exit ?_
      (clear hK; refine hK _ _ ?_; clear hK)
      refine WC.seq fun K hK => ?_
      refine WC.region rfl ?_
      refine wG rfl rfl (g_move rfl (.mk (v := .slice _ _ _) rfl rfl)) ?_
      refine wG rfl rfl (g_assign rfl (.mk (v := .slice _ _ _) rfl rfl)) ?_
      refine wG rfl rfl (g_assign rfl (.mk (v := .int _ _) rfl rfl)) ?_
      refine WL.nil ?_
      (refine hK _ _ ?_; clear hK)
      refine WC.ret ?_
      exact fun w' hw' => ⟨_, _, rfl, hw'.sub (.cons_cons _ (.cons _ .slnil)), A1, c1, rfl, rfl⟩
end Go.Proofs.Ytnkbnponpknokaa
