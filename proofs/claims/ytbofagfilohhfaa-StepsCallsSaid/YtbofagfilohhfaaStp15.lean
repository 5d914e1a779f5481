/- A call of the program's scheduler does what the specification's call does. No condition. -/
import Derived.Test.YtbofagfilohhfaaStp14
namespace Go.Proofs.Ytbofagfilohhfaa
set_option maxRecDepth 20000
open Go.RowKit
attribute [local irreducible] Calls
def En.rj (js : List Jb) (e : En) : Rj := ⟨e.id, e.wt, e.cr, (nth js e.q).l⟩
/-- The machines as the specification has them. -/
def rOf (js : List Jb) (es : List En) : List Rj := es.map (En.rj js)
theorem rOf_len (js : List Jb) (es : List En) : (rOf js es).length = es.length := by simp [rOf]
theorem rOf_nth {js : List Jb} {es : List En} {k : Nat} (h : k < es.length) : nth (rOf js es) k = (nth es k).rj js := by
  rw [nth_eq (by rw [rOf_len]; exact h), nth_eq h]; simp [rOf]
theorem rOf_idR (js : List Jb) (es : List En) (x : Int) : idR (rOf js es) x = idN es x := by
  induction es with
  | nil => rfl
  | cons a l ih =>
    unfold idR idN rOf at *
    simp only [List.map_cons, List.findIdx_cons, ih]
    rfl
theorem rOf_ids (js : List Jb) (es : List En) : idsR (rOf js es) = idsL es := by simp [rOf, idsR, idsL, En.rj]
theorem rOf_crR (js : List Jb) (es : List En) (x : Int) : crR (rOf js es) x = crI es x := by
  unfold crR crI
  rw [rOf_idR, rOf_len]
  split
  · rename_i h; rw [rOf_nth h]; rfl
  · rfl
theorem rOf_erase (js : List Jb) (es : List En) (k : Nat) : rOf js (es.eraseIdx k) = (rOf js es).eraseIdx k := by simp [rOf, List.eraseIdx_eq_take_drop_succ, List.map_take, List.map_drop]
theorem rOf_congr {js js' : List Jb} {es : List En} (h : ∀ e ∈ es, (nth js e.q).l = (nth js' e.q).l) : rOf js es = rOf js' es := List.map_congr_left fun e he => by unfold En.rj; rw [h e he]
theorem rOf_new {js : List Jb} {es : List En} {e : En} {j : Jb} (ho : Ok es js) (hq : e.q = js.length) : rOf (js ++ [j]) (es ++ [e]) = rOf js es ++ [⟨e.id, e.wt, e.cr, j.l⟩] := by
  have h1 : rOf (js ++ [j]) es = rOf js es := rOf_congr fun e he => by
    have := ho.ent e he
    have hq : e.q < js.length := by unfold En.q; omega
    rw [nth_app (by omega), if_neg (by omega)]
  unfold rOf at *
  rw [List.map_append, h1]
  congr 1
  simp [En.rj, hq, nth_app]
theorem nth_setj {l : List Jb} {m q : Nat} {v : Jb} (hq : q < l.length) : nth (l.set m v) q = if q = m then v else nth l q := by
  rw [nth_eq (by rw [List.length_set]; exact hq), List.getElem_set]
  by_cases e : q = m
  · rw [if_pos e.symm, if_pos e]
  · rw [if_neg (fun x => e x.symm), if_neg e, nth_eq hq]
theorem rOf_step {js : List Jb} {es : List En} {k : Nat} (ho : Ok es js) (hk : k < es.length) : rOf (stpJ es js k) es = (rOf js es).set k (nth (rOf js es) k).stp := by
  apply List.ext_getElem
  · simp [rOf]
  · intro i h1 h2
    have hi : i < es.length := by rw [rOf_len] at h1; exact h1
    have hqi := ho.q hi
    rw [List.getElem_set, ← nth_eq h1, rOf_nth hi]
    by_cases e : k = i
    · subst e
      rw [if_pos rfl, rOf_nth hk]
      unfold En.rj Rj.stp stpJ
      rw [nth_setj hqi, if_pos rfl]
      rfl
    · rw [if_neg e, ← nth_eq (by rw [rOf_len]; exact hi), rOf_nth hi]
      unfold En.rj stpJ
      have hne : (nth es i).q ≠ (nth es k).q := fun x => e (ho.apart hk hi x.symm)
      rw [nth_setj hqi, if_neg hne]
theorem rOf_stp {js : List Jb} {es : List En} {k : Nat} (ho : Ok es js) (hk : k < es.length) : rOf (stpJ es js k) (stpE es js k) = stR (rOf js es) k := by
  have h1 := rOf_step ho hk
  unfold stR stpE
  rw [← h1, rOf_nth hk]
  show (rOf _ (if wr ((nth js (nth es k).q).l - 1) = 0 then _ else _)) = if wr ((nth js (nth es k).q).l - 1) = 0 then _ else _
  split
  · rw [rOf_erase]
  · rfl
theorem rOf_stA {js : List Jb} {es : List En} {k : Nat} (hk : k < es.length) : stA (rOf js es) k = ansV (nth es k).id (decide ((nth js (nth es k).q).stp.l = 0)) 0 := by
  unfold stA
  rw [rOf_nth hk]
  rfl
theorem rOf_add (js : List Jb) (es : List En) : (rOf js es).map Rj.add = rOf js (es.map En.add) := by
  unfold rOf
  rw [List.map_map, List.map_map]
  exact List.map_congr_left fun e _ => rfl
theorem rOf_bst (js : List Jb) (es : List En) : ∀ i, i ≤ es.length → bstR (rOf js es) i = bst es i
  | 0, _ => rfl
  | i + 1, h => by
    have ih := rOf_bst js es i (by omega)
    have hb := bst_lt es i
    rw [bstR, bst, ih, rOf_nth (by omega), rOf_nth (by omega)]
    rfl
theorem rOf_sum (js : List Jb) (es : List En) : ∀ i, i ≤ es.length → sumR (rOf js es) i = sumW es i
  | 0, _ => rfl
  | i + 1, h => by
    rw [sumR, sumW, rOf_sum js es i (by omega), rOf_nth (by omega)]
    rfl
theorem rOf_fairB (js : List Jb) (es : List En) : fairRB (rOf js es) = fairB es := by
  unfold fairRB fairB
  rw [rOf_add, rOf_len, rOf_bst js _ _ (by rw [List.length_map]; exact Nat.le_refl _)]
theorem rOf_set (js : List Jb) (es : List En) (k : Nat) (e : En) : rOf js (es.set k e) = (rOf js es).set k (e.rj js) := by unfold rOf; rw [List.map_set]
theorem rOf_fairW {js : List Jb} {es : List En} (h0 : 1 ≤ es.length) : fairRW (rOf js es) = rOf js (fairW es) := by
  have hb : fairB es < (es.map En.add).length := by rw [List.length_map]; exact fairB_lt h0
  unfold fairRW fairW
  rw [rOf_fairB, rOf_add, rOf_len, rOf_sum js es _ (Nat.le_refl _), rOf_set, rOf_nth hb]
  rfl
theorem rOf_bnd {js : List Jb} {es : List En} (h : Bnd es) : BndR (rOf js es) := fun i hi => by
  rw [rOf_len] at hi
  rw [rOf_nth hi]
  exact h i hi
/-- What holds after k calls. -/
structure CS (k : Nat) (es : List En) (js : List Jb) : Prop where
  ok : Ok es js
  len : es.length ≤ 64
  bnd : BndK es (2000 * k)
  cnt : js.length ≤ k
theorem CS.zero : CS 0 [] [] := ⟨⟨fun e he => absurd he (by simp), List.Pairwise.nil⟩, by simp, fun i hi => absurd hi (by simp), by simp⟩
theorem CS.succ {k : Nat} {es : List En} {js : List Jb} (h : CS k es js) : CS (k + 1) es js := ⟨h.ok, h.len, h.bnd.mono (by omega), Nat.le_succ_of_le h.cnt⟩
theorem stpE_len (es : List En) (js : List Jb) (k : Nat) : (stpE es js k).length ≤ es.length := by
  unfold stpE
  split
  · exact List.length_eraseIdx_le _ _
  · exact Nat.le_refl _
theorem CS.erase {k m : Nat} {es : List En} {js : List Jb} (h : CS k es js) : CS (k + 1) (es.eraseIdx m) js := ⟨h.ok.sub (List.eraseIdx_sublist _ _), Nat.le_trans (List.length_eraseIdx_le _ _) h.len, (h.bnd.sub (List.eraseIdx_sublist _ _)).mono (by omega), Nat.le_succ_of_le h.cnt⟩
theorem CS.stp {k m : Nat} {es : List En} {js : List Jb} (h : CS k es js) : CS (k + 1) (stpE es js m) (stpJ es js m) := ⟨h.ok.stp m, Nat.le_trans (stpE_len _ _ _) h.len, (h.bnd.stp js m).mono (by omega), by rw [stpJ_len]; exact Nat.le_succ_of_le h.cnt⟩
theorem CS.fair {k : Nat} {es : List En} {js : List Jb} (h : CS k es js) (h0 : 1 ≤ es.length) (hk : k ≤ 1000) : CS (k + 1) (fairE es js) (fairJ es js) := by
  refine ⟨h.ok.fair h0, Nat.le_trans (stpE_len _ _ _) (by rw [fairW_len]; exact h.len), (h.bnd.fair js (by omega) (by omega) h.len h0).mono (by omega), ?_⟩
  unfold fairJ
  rw [stpJ_len]; exact Nat.le_succ_of_le h.cnt
theorem CS.add {k p j : Nat} {n mo : Int} {es : List En} {js : List Jb} (h : CS k es js) (hl : es.length < 64) (h1 : 1 ≤ n) (h2 : n ≤ 16) : CS (k + 1) (es ++ [⟨p, (js.length : Int) + 1, n, 0, j⟩]) (js ++ [⟨j, mo, 0⟩]) := by
  have hq : (⟨p, (js.length : Int) + 1, n, 0, j⟩ : En).q = js.length := by unfold En.q; simp
  refine ⟨⟨fun e he => ?_, ?_⟩, by simp; omega, fun i hi => ?_, by simp; exact h.cnt⟩
  · rcases List.mem_append.1 he with he | he
    · have := h.ok.ent e he
      have hqe : e.q < js.length := by unfold En.q; omega
      rw [nth_app (by omega), if_neg (by omega), List.length_append]
      refine ⟨this.1, ?_, this.2.2.1, this.2.2.2⟩
      have := this.2.1
      simp
      omega
    · obtain rfl := List.mem_singleton.1 he
      rw [hq, nth_app (by omega), if_pos rfl]
      refine ⟨?_, by simp, rfl, h1, h2⟩
      show 1 ≤ (js.length : Int) + 1
      omega
  · rw [List.pairwise_append]
    refine ⟨h.ok.ord, by simp, fun a ha b hb => ?_⟩
    obtain rfl := List.mem_singleton.1 hb
    have := (h.ok.ent a ha).2.1
    show a.id < (js.length : Int) + 1
    omega
  · rw [List.length_append] at hi
    rw [nth_app hi]
    split
    · show 1 ≤ n ∧ n ≤ 16 ∧ _ ≤ (0 : Int) ∧ (0 : Int) ≤ _
      omega
    · have := h.bnd i (by simp at hi; omega)
      omega
section
variable {w0 w : World} {L : List Asrt} {S c k : Nat} {A : Option Addr} {n mo : Int} {es : List En} {js : List Jb}
/-- What a call of the program's scheduler leaves and answers. -/
def CallPost (w0 : World) (L : List Asrt) (S k : Nat) (r : Value × Int × List Rj) (e : Ending) (w' : World) : Prop := ∃ u L', e = .returned u ∧ H w0 L' w' ∧ ∃ A' c' es' js', CS (k + 1) es' js' ∧ r = (u, (js'.length : Int), rOf js' es') ∧ L' = schd S A' c' js'.length es' ++ jbs js' :: L
set_option maxRecDepth 20000 in
set_option maxHeartbeats 1000000 in
theorem do_add (h : CS k es js) (hk : k ≤ 1000) (hw : H w0 (schd S A c js.length es ++ jbs js :: L) w) :
    Calls Try.prog 17 #[bp S, actV 0 n mo] w (CallPost w0 L S k (nxt js.length (rOf js es) 0 n mo)) := by
  have hcn := h.cnt
  unfold nxt
  rw [if_pos rfl, rOf_len]
  by_cases h1 : n < 1 ∨ 16 < n
  · rw [if_pos h1]
    refine calls_wcG (args := [bp S, actV 0 n mo]) [.cell 4 51] (schd S A c js.length es ++ jbs js :: L) Try.func17 rfl Try.ntmps17 rfl rfl hw ?_
    (refine WC.seq ?_; intro K hK)
    refine WC.region rfl ?_
    refine WL.want rfl (WL1.box rfl rfl (.mk (v := .agg _) rfl rfl) rfl (fun b3 => ?_))
    refine WL.want rfl (WL1.alloc rfl rfl rfl rfl (fun b4 => ?_))
    refine WL.nil ?_
    (refine hK _ _ ?_; clear hK)
    (refine WC.seq ?_; intro K hK)
    (refine WC.seq ?_; intro K hK)
    refine WC.region rfl ?_
    refine WL.want rfl (WL1.give rfl (g_fieldAddr (off := 0) rfl (.mk rfl rfl) rfl (fun _ _ => rfl)) ?_)
    refine WL.want rfl (WL1.give rfl (g_load rfl (.mk rfl rfl) rfl (rd_pt (.tail _ (.head _)) rfl)) ?_)
    refine WL.nil ?_
    (refine hK _ _ ?_; clear hK)
    refine WC.block ?_
    (refine WC.seq ?_; intro K hK)
    refine WC.region rfl ?_
    refine WL.want rfl (WL1.give rfl (g_eq rfl (.mk rfl rfl) (.mk rfl rfl) (decide_eq_true (by omega))) ?_)
    refine WL.want rfl (WL1.give rfl (g_assign rfl (.mk (v := .bool _) rfl rfl)) ?_)
    refine WL.nil ?_
    (refine hK _ _ ?_; clear hK)
    refine WC.cond_true (.mk rfl rfl) ?_
    (refine WC.seq ?_; intro K hK)
    refine WC.region rfl ?_
    refine WL.want rfl (WL1.give rfl (g_move rfl (.mk (v := cellPtr _ _) rfl rfl)) ?_)
    refine WL.want rfl (WL1.give rfl (g_fieldAddr (off := 2) rfl (.mk rfl rfl) rfl (fun _ _ => rfl)) ?_)
    refine WL.want rfl (WL1.give rfl (g_load rfl (.mk rfl rfl) rfl (rd_pt (.tail _ (.head _)) rfl)) ?_)
    refine WL.want rfl (WL1.give rfl (g_build (cs := [_, _]) rfl rfl rfl rfl (.cons (.mk (v := .int _ _) rfl rfl) .nil) rfl rfl rfl) ?_)
    refine WL.want rfl (WL1.box rfl rfl (.mk (v := .agg _) rfl rfl) rfl (fun b22 => ?_))
    refine WL.want rfl (WL1.give rfl (g_mkIface rfl (.mk (v := cellPtr _ _) rfl rfl) rfl) ?_)
    refine WL.want rfl (WL1.give rfl (g_fieldAddr (off := 1) rfl (.mk rfl rfl) rfl (fun _ _ => rfl)) ?_)
    refine WL.want rfl (WL1.give rfl (g_load rfl (.mk rfl rfl) rfl (rd_pt (.tail _ (.tail _ (.head _))) rfl)) ?_)
    refine WL.want rfl (WL1.callP rfl rfl rfl (.cons (.mk (v := cellPtr _ _) rfl rfl) (.cons (.mk (v := .iface _ _) rfl rfl) (.cons (.mk (v := .int _ _) rfl rfl) .nil))) (fun w hw => add_bad h1 hw) ?_)
    refine WL.want rfl (WL1.give rfl (g_move rfl (.mk (v := .tuple _) rfl rfl)) ?_)
    refine WL.want rfl (WL1.give rfl (g_extract rfl (.mk rfl rfl) rfl) ?_)
    refine WL.want rfl (WL1.give rfl (g_extract rfl (.mk rfl rfl) rfl) ?_)
    refine WL.want rfl (WL1.give rfl (g_assign rfl (.mk (v := .int _ _) rfl rfl)) ?_)
    refine WL.want rfl (WL1.give rfl (g_assign rfl (.mk (v := .int _ _) rfl rfl)) ?_)
    refine WL.nil ?_
    (refine hK _ _ ?_; clear hK)
    (refine WC.seq ?_; intro K hK)
    refine WC.region rfl ?_
    refine WL.want rfl (WL1.give rfl (g_move rfl (.mk (v := .int _ _) rfl rfl)) ?_)
    refine WL.want rfl (WL1.give rfl (g_move rfl (.mk (v := .int _ _) rfl rfl)) ?_)
    refine WL.want rfl (WL1.give rfl (g_build (cs := [_, _, _]) rfl rfl rfl rfl (.cons (.mk (v := .int _ _) rfl rfl) (.cons (.mk (v := .int _ _) rfl rfl) .nil)) rfl rfl rfl) ?_)
    refine WL.want rfl (WL1.storeAll rfl rfl (.mk rfl rfl) (.mk rfl rfl) rfl (all1 rfl) (by first | rfl | (simp [Blk.len]; done)) (.tail (.head)) ?_)
    refine WL.nil ?_
    (refine hK _ _ ?_; clear hK)
    refine WC.ret ?_
    exact ⟨_, .cell rfl rfl rfl rfl (by first | ((repeat (first | exact .head _ | apply List.Mem.tail)); done) | fail) .nil, fun w' hw' => ⟨_, _, rfl, hw'.sub (.cons _ (.cons _ (.cons _ (.refl _)))), A, c, es, js, h.succ, rfl, rfl⟩⟩
  rw [if_neg h1]
  by_cases h3 : es.length = 64
  · rw [if_pos h3]
    refine calls_wcG (args := [bp S, actV 0 n mo]) [.cell 4 51] (schd S A c js.length es ++ jbs js :: L) Try.func17 rfl Try.ntmps17 rfl rfl hw ?_
    (refine WC.seq ?_; intro K hK)
    refine WC.region rfl ?_
    refine WL.want rfl (WL1.box rfl rfl (.mk (v := .agg _) rfl rfl) rfl (fun b3 => ?_))
    refine WL.want rfl (WL1.alloc rfl rfl rfl rfl (fun b4 => ?_))
    refine WL.nil ?_
    (refine hK _ _ ?_; clear hK)
    (refine WC.seq ?_; intro K hK)
    (refine WC.seq ?_; intro K hK)
    refine WC.region rfl ?_
    refine WL.want rfl (WL1.give rfl (g_fieldAddr (off := 0) rfl (.mk rfl rfl) rfl (fun _ _ => rfl)) ?_)
    refine WL.want rfl (WL1.give rfl (g_load rfl (.mk rfl rfl) rfl (rd_pt (.tail _ (.head _)) rfl)) ?_)
    refine WL.nil ?_
    (refine hK _ _ ?_; clear hK)
    refine WC.block ?_
    (refine WC.seq ?_; intro K hK)
    refine WC.region rfl ?_
    refine WL.want rfl (WL1.give rfl (g_eq rfl (.mk rfl rfl) (.mk rfl rfl) (decide_eq_true (by omega))) ?_)
    refine WL.want rfl (WL1.give rfl (g_assign rfl (.mk (v := .bool _) rfl rfl)) ?_)
    refine WL.nil ?_
    (refine hK _ _ ?_; clear hK)
    refine WC.cond_true (.mk rfl rfl) ?_
    (refine WC.seq ?_; intro K hK)
    refine WC.region rfl ?_
    refine WL.want rfl (WL1.give rfl (g_move rfl (.mk (v := cellPtr _ _) rfl rfl)) ?_)
    refine WL.want rfl (WL1.give rfl (g_fieldAddr (off := 2) rfl (.mk rfl rfl) rfl (fun _ _ => rfl)) ?_)
    refine WL.want rfl (WL1.give rfl (g_load rfl (.mk rfl rfl) rfl (rd_pt (.tail _ (.head _)) rfl)) ?_)
    refine WL.want rfl (WL1.give rfl (g_build (cs := [_, _]) rfl rfl rfl rfl (.cons (.mk (v := .int _ _) rfl rfl) .nil) rfl rfl rfl) ?_)
    refine WL.want rfl (WL1.box rfl rfl (.mk (v := .agg _) rfl rfl) rfl (fun b22 => ?_))
    refine WL.want rfl (WL1.give rfl (g_mkIface rfl (.mk (v := cellPtr _ _) rfl rfl) rfl) ?_)
    refine WL.want rfl (WL1.give rfl (g_fieldAddr (off := 1) rfl (.mk rfl rfl) rfl (fun _ _ => rfl)) ?_)
    refine WL.want rfl (WL1.give rfl (g_load rfl (.mk rfl rfl) rfl (rd_pt (.tail _ (.tail _ (.head _))) rfl)) ?_)
    refine WL.want rfl (WL1.callP rfl rfl rfl (.cons (.mk (v := cellPtr _ _) rfl rfl) (.cons (.mk (v := .iface _ _) rfl rfl) (.cons (.mk (v := .int _ _) rfl rfl) .nil))) (fun w hw => add_full h3 (by omega) (by omega) (hw.perm (List.perm_append_comm_assoc [_, _, _] (schd S A c js.length es) (jbs js :: L)))) ?_)
    refine WL.want rfl (WL1.give rfl (g_move rfl (.mk (v := .tuple _) rfl rfl)) ?_)
    refine WL.want rfl (WL1.give rfl (g_extract rfl (.mk rfl rfl) rfl) ?_)
    refine WL.want rfl (WL1.give rfl (g_extract rfl (.mk rfl rfl) rfl) ?_)
    refine WL.want rfl (WL1.give rfl (g_assign rfl (.mk (v := .int _ _) rfl rfl)) ?_)
    refine WL.want rfl (WL1.give rfl (g_assign rfl (.mk (v := .int _ _) rfl rfl)) ?_)
    refine WL.nil ?_
    (refine hK _ _ ?_; clear hK)
    (refine WC.seq ?_; intro K hK)
    refine WC.region rfl ?_
    refine WL.want rfl (WL1.give rfl (g_move rfl (.mk (v := .int _ _) rfl rfl)) ?_)
    refine WL.want rfl (WL1.give rfl (g_move rfl (.mk (v := .int _ _) rfl rfl)) ?_)
    refine WL.want rfl (WL1.give rfl (g_build (cs := [_, _, _]) rfl rfl rfl rfl (.cons (.mk (v := .int _ _) rfl rfl) (.cons (.mk (v := .int _ _) rfl rfl) .nil)) rfl rfl rfl) ?_)
    refine WL.want rfl (WL1.storeAll rfl rfl (.mk rfl rfl) (.mk rfl rfl) rfl (all1 rfl) (by first | rfl | (simp [Blk.len]; done)) (.tail (.head)) ?_)
    refine WL.nil ?_
    (refine hK _ _ ?_; clear hK)
    refine WC.ret ?_
    exact ⟨_, .cell rfl rfl rfl rfl (by first | ((repeat (first | exact .head _ | apply List.Mem.tail)); done) | fail) .nil, fun w' hw' => ⟨_, _, rfl, hw'.sub (.cons _ (.cons _ (.cons _ (.refl _)))), A, c, es, js, h.succ, rfl, rfl⟩⟩
  rw [if_neg h3]
  have hl := h.len
  have HA : ∀ (L1 : List Asrt) (j : Nat) w', H w0 (L1 ++ (schd S A c js.length es ++ jbs js :: L)) w' → Calls Try.prog 11 #[bp S, .iface MT (bp j), iv n] w' fun e w'' => ∃ u L', e = .returned u ∧ H w0 L' w'' ∧ ∃ A' c' p, u = .tuple #[iv ((js.length : Int) + 1), iv 0] ∧ L' = schd S A' c' ((js.length : Int) + 1) (es ++ [⟨p, (js.length : Int) + 1, n, 0, j⟩]) ++ (L1 ++ jbs js :: L) := fun L1 j w' hw' =>
    add_ok (by omega) (by omega) (by omega) (by omega) (by omega) (hw'.perm (List.perm_append_comm_assoc L1 (schd S A c js.length es) (jbs js :: L)))
  refine calls_wcG (args := [bp S, actV 0 n mo]) [.cell 4 51] (schd S A c js.length es ++ jbs js :: L) Try.func17 rfl Try.ntmps17 rfl rfl hw ?_
  (refine WC.seq ?_; intro K hK)
  refine WC.region rfl ?_
  refine WL.want rfl (WL1.box rfl rfl (.mk (v := .agg _) rfl rfl) rfl (fun b3 => ?_))
  refine WL.want rfl (WL1.alloc rfl rfl rfl rfl (fun b4 => ?_))
  refine WL.nil ?_
  (refine hK _ _ ?_; clear hK)
  (refine WC.seq ?_; intro K hK)
  (refine WC.seq ?_; intro K hK)
  refine WC.region rfl ?_
  refine WL.want rfl (WL1.give rfl (g_fieldAddr (off := 0) rfl (.mk rfl rfl) rfl (fun _ _ => rfl)) ?_)
  refine WL.want rfl (WL1.give rfl (g_load rfl (.mk rfl rfl) rfl (rd_pt (.tail _ (.head _)) rfl)) ?_)
  refine WL.nil ?_
  (refine hK _ _ ?_; clear hK)
  refine WC.block ?_
  (refine WC.seq ?_; intro K hK)
  refine WC.region rfl ?_
  refine WL.want rfl (WL1.give rfl (g_eq rfl (.mk rfl rfl) (.mk rfl rfl) (decide_eq_true (by omega))) ?_)
  refine WL.want rfl (WL1.give rfl (g_assign rfl (.mk (v := .bool _) rfl rfl)) ?_)
  refine WL.nil ?_
  (refine hK _ _ ?_; clear hK)
  refine WC.cond_true (.mk rfl rfl) ?_
  (refine WC.seq ?_; intro K hK)
  refine WC.region rfl ?_
  refine WL.want rfl (WL1.give rfl (g_move rfl (.mk (v := cellPtr _ _) rfl rfl)) ?_)
  refine WL.want rfl (WL1.give rfl (g_fieldAddr (off := 2) rfl (.mk rfl rfl) rfl (fun _ _ => rfl)) ?_)
  refine WL.want rfl (WL1.give rfl (g_load rfl (.mk rfl rfl) rfl (rd_pt (.tail _ (.head _)) rfl)) ?_)
  refine WL.want rfl (WL1.give rfl (g_build (cs := [_, _]) rfl rfl rfl rfl (.cons (.mk (v := .int _ _) rfl rfl) .nil) rfl rfl rfl) ?_)
  refine WL.want rfl (WL1.box rfl rfl (.mk (v := .agg _) rfl rfl) rfl (fun b22 => ?_))
  refine WL.want rfl (WL1.give rfl (g_mkIface rfl (.mk (v := cellPtr _ _) rfl rfl) rfl) ?_)
  refine WL.want rfl (WL1.give rfl (g_fieldAddr (off := 1) rfl (.mk rfl rfl) rfl (fun _ _ => rfl)) ?_)
  refine WL.want rfl (WL1.give rfl (g_load rfl (.mk rfl rfl) rfl (rd_pt (.tail _ (.tail _ (.head _))) rfl)) ?_)
  (refine WL.want rfl (WL1.callF rfl rfl rfl (.cons (.mk (v := cellPtr _ _) rfl rfl) (.cons (.mk (v := .iface _ _) rfl rfl) (.cons (.mk (v := .int _ _) rfl rfl) .nil))) (fun w hw => HA [_, _, _] b22 w hw) ?_); rintro _ _ ⟨A1, c1, p1, rfl, rfl⟩)
  refine WL.want rfl (WL1.give rfl (g_move rfl (.mk (v := .tuple _) rfl rfl)) ?_)
  refine WL.want rfl (WL1.give rfl (g_extract rfl (.mk rfl rfl) rfl) ?_)
  refine WL.want rfl (WL1.give rfl (g_extract rfl (.mk rfl rfl) rfl) ?_)
  refine WL.want rfl (WL1.give rfl (g_assign rfl (.mk (v := .int _ _) rfl rfl)) ?_)
  refine WL.want rfl (WL1.give rfl (g_assign rfl (.mk (v := .int _ _) rfl rfl)) ?_)
  refine WL.nil ?_
  (refine hK _ _ ?_; clear hK)
  (refine WC.seq ?_; intro K hK)
  refine WC.region rfl ?_
  refine WL.want rfl (WL1.give rfl (g_move rfl (.mk (v := .int _ _) rfl rfl)) ?_)
  refine WL.want rfl (WL1.give rfl (g_move rfl (.mk (v := .int _ _) rfl rfl)) ?_)
  refine WL.want rfl (WL1.give rfl (g_build (cs := [_, _, _]) rfl rfl rfl rfl (.cons (.mk (v := .int _ _) rfl rfl) (.cons (.mk (v := .int _ _) rfl rfl) .nil)) rfl rfl rfl) ?_)
  refine WL.want rfl (WL1.storeAll rfl rfl (.mk rfl rfl) (.mk rfl rfl) rfl (all1 rfl) (by first | rfl | (simp [Blk.len]; done)) (.tail (.tail (.tail (.tail (.head))))) ?_)
  refine WL.nil ?_
  (refine hK _ _ ?_; clear hK)
  refine WC.ret ?_
  refine ⟨_, .cell rfl rfl rfl rfl (by first | ((repeat (first | exact .head _ | apply List.Mem.tail)); done) | fail) .nil, fun w' hw' => ⟨_, _, rfl, ?_, A1, c1, es ++ [⟨p1, (js.length : Int) + 1, n, 0, b22⟩], js ++ [⟨b22, mo, 0⟩], h.add (by omega) (by omega) (by omega), ?_, rfl⟩⟩
  · rw [List.length_append]
    exact (Imp.cons (Imp.cons (Imp.cons (Imp.trans (Imp.pick .head (Imp.pick (.tail (.tail .head)) (Imp.sub (.cons _ (.cons _ (.refl _)))))) (jbs_new (js := js) (e := ⟨b22, mo, 0⟩)))))).h hw'
  · rw [rOf_new h.ok (by unfold En.q; simp), List.length_append]
    rfl
set_option maxRecDepth 20000 in
set_option maxHeartbeats 1000000 in
theorem do_remove (h : CS k es js) (hw : H w0 (schd S A c js.length es ++ jbs js :: L) w) :
    Calls Try.prog 17 #[bp S, actV 1 n mo] w (CallPost w0 L S k (nxt js.length (rOf js es) 1 n mo)) := by
  have hl := h.len
  unfold nxt
  rw [if_neg (by decide), if_pos rfl, rOf_len, rOf_idR, ← rOf_erase]
  by_cases h1 : idN es n < es.length
  · rw [if_pos h1]
    have HR : ∀ (L1 : List Asrt) w', H w0 (L1 ++ (schd S A c js.length es ++ jbs js :: L)) w' → Calls Try.prog 12 #[bp S, iv n] w' fun e w'' => ∃ u L', e = .returned u ∧ H w0 L' w'' ∧ u = iv 0 ∧ L' = schd S A c js.length (es.eraseIdx (idN es n)) ++ ent (nth es (idN es n)) :: (L1 ++ jbs js :: L) := fun L1 w' hw' =>
      remove_yes hl h1 rfl (hw'.perm (List.perm_append_comm_assoc L1 (schd S A c js.length es) (jbs js :: L)))
    refine calls_wcG (args := [bp S, actV 1 n mo]) [.cell 4 51] (schd S A c js.length es ++ jbs js :: L) Try.func17 rfl Try.ntmps17 rfl rfl hw ?_
    (refine WC.seq ?_; intro K hK)
    refine WC.region rfl ?_
    refine WL.want rfl (WL1.box rfl rfl (.mk (v := .agg _) rfl rfl) rfl (fun b3 => ?_))
    refine WL.want rfl (WL1.alloc rfl rfl rfl rfl (fun b4 => ?_))
    refine WL.nil ?_
    (refine hK _ _ ?_; clear hK)
    (refine WC.seq ?_; intro K hK)
    (refine WC.seq ?_; intro K hK)
    refine WC.region rfl ?_
    refine WL.want rfl (WL1.give rfl (g_fieldAddr (off := 0) rfl (.mk rfl rfl) rfl (fun _ _ => rfl)) ?_)
    refine WL.want rfl (WL1.give rfl (g_load rfl (.mk rfl rfl) rfl (rd_pt (.tail _ (.head _)) rfl)) ?_)
    refine WL.nil ?_
    (refine hK _ _ ?_; clear hK)
    refine WC.block ?_
    (refine WC.seq ?_; intro K hK)
    refine WC.region rfl ?_
    refine WL.want rfl (WL1.give rfl (g_eq rfl (.mk rfl rfl) (.mk rfl rfl) (decide_eq_false (by omega))) ?_)
    refine WL.want rfl (WL1.give rfl (g_assign rfl (.mk (v := .bool _) rfl rfl)) ?_)
    refine WL.nil ?_
    (refine hK _ _ ?_; clear hK)
    refine WC.cond_false (.mk rfl rfl) ?_
    (refine WC.seq ?_; intro K hK)
    refine WC.region rfl ?_
    refine WL.want rfl (WL1.give rfl (g_eq rfl (.mk rfl rfl) (.mk rfl rfl) (decide_eq_true (by omega))) ?_)
    refine WL.want rfl (WL1.give rfl (g_assign rfl (.mk (v := .bool _) rfl rfl)) ?_)
    refine WL.nil ?_
    (refine hK _ _ ?_; clear hK)
    refine WC.cond_true (.mk rfl rfl) ?_
    (refine WC.seq ?_; intro K hK)
    refine WC.region rfl ?_
    refine WL.want rfl (WL1.give rfl (g_move rfl (.mk (v := cellPtr _ _) rfl rfl)) ?_)
    refine WL.want rfl (WL1.give rfl (g_fieldAddr (off := 1) rfl (.mk rfl rfl) rfl (fun _ _ => rfl)) ?_)
    refine WL.want rfl (WL1.give rfl (g_load rfl (.mk rfl rfl) rfl (rd_pt (.tail _ (.head _)) rfl)) ?_)
    (refine WL.want rfl (WL1.callF rfl rfl rfl (.cons (.mk (v := cellPtr _ _) rfl rfl) (.cons (.mk (v := .int _ _) rfl rfl) .nil)) (fun w hw => HR [_, _] w hw) ?_); rintro _ _ ⟨rfl, rfl⟩)
    refine WL.want rfl (WL1.give rfl (g_build (cs := [_, _, _]) rfl rfl rfl rfl (.cons (.mk (v := .int _ _) rfl rfl) .nil) rfl rfl rfl) ?_)
    refine WL.want rfl (WL1.storeAll rfl rfl (.mk rfl rfl) (.mk rfl rfl) rfl (all1 rfl) (by first | rfl | (simp [Blk.len]; done)) (.tail (.tail (.tail (.tail (.head))))) ?_)
    refine WL.nil ?_
    (refine hK _ _ ?_; clear hK)
    refine WC.ret ?_
    exact ⟨_, .cell rfl rfl rfl rfl (by first | ((repeat (first | exact .head _ | apply List.Mem.tail)); done) | fail) .nil, fun w' hw' => ⟨_, _, rfl, hw'.sub (.cons_cons _ (.cons_cons _ (.cons_cons _ (.cons _ (.cons _ (.cons _ (.refl _))))))), A, c, _, js, h.erase, rfl, rfl⟩⟩
  · rw [if_neg h1]
    have hno : idN es n = es.length := by have := List.findIdx_le_length (p := fun e : En => e.id == n) (xs := es); unfold idN at h1 ⊢; omega
    have HR : ∀ (L1 : List Asrt) w', H w0 (L1 ++ (schd S A c js.length es ++ jbs js :: L)) w' → Calls Try.prog 12 #[bp S, iv n] w' fun e w'' => ∃ u L', e = .returned u ∧ H w0 L' w'' ∧ u = iv 9 ∧ L' = schd S A c js.length es ++ (L1 ++ jbs js :: L) := fun L1 w' hw' =>
      remove_no hl hno (hw'.perm (List.perm_append_comm_assoc L1 (schd S A c js.length es) (jbs js :: L)))
    refine calls_wcG (args := [bp S, actV 1 n mo]) [.cell 4 51] (schd S A c js.length es ++ jbs js :: L) Try.func17 rfl Try.ntmps17 rfl rfl hw ?_
    (refine WC.seq ?_; intro K hK)
    refine WC.region rfl ?_
    refine WL.want rfl (WL1.box rfl rfl (.mk (v := .agg _) rfl rfl) rfl (fun b3 => ?_))
    refine WL.want rfl (WL1.alloc rfl rfl rfl rfl (fun b4 => ?_))
    refine WL.nil ?_
    (refine hK _ _ ?_; clear hK)
    (refine WC.seq ?_; intro K hK)
    (refine WC.seq ?_; intro K hK)
    refine WC.region rfl ?_
    refine WL.want rfl (WL1.give rfl (g_fieldAddr (off := 0) rfl (.mk rfl rfl) rfl (fun _ _ => rfl)) ?_)
    refine WL.want rfl (WL1.give rfl (g_load rfl (.mk rfl rfl) rfl (rd_pt (.tail _ (.head _)) rfl)) ?_)
    refine WL.nil ?_
    (refine hK _ _ ?_; clear hK)
    refine WC.block ?_
    (refine WC.seq ?_; intro K hK)
    refine WC.region rfl ?_
    refine WL.want rfl (WL1.give rfl (g_eq rfl (.mk rfl rfl) (.mk rfl rfl) (decide_eq_false (by omega))) ?_)
    refine WL.want rfl (WL1.give rfl (g_assign rfl (.mk (v := .bool _) rfl rfl)) ?_)
    refine WL.nil ?_
    (refine hK _ _ ?_; clear hK)
    refine WC.cond_false (.mk rfl rfl) ?_
    (refine WC.seq ?_; intro K hK)
    refine WC.region rfl ?_
    refine WL.want rfl (WL1.give rfl (g_eq rfl (.mk rfl rfl) (.mk rfl rfl) (decide_eq_true (by omega))) ?_)
    refine WL.want rfl (WL1.give rfl (g_assign rfl (.mk (v := .bool _) rfl rfl)) ?_)
    refine WL.nil ?_
    (refine hK _ _ ?_; clear hK)
    refine WC.cond_true (.mk rfl rfl) ?_
    (refine WC.seq ?_; intro K hK)
    refine WC.region rfl ?_
    refine WL.want rfl (WL1.give rfl (g_move rfl (.mk (v := cellPtr _ _) rfl rfl)) ?_)
    refine WL.want rfl (WL1.give rfl (g_fieldAddr (off := 1) rfl (.mk rfl rfl) rfl (fun _ _ => rfl)) ?_)
    refine WL.want rfl (WL1.give rfl (g_load rfl (.mk rfl rfl) rfl (rd_pt (.tail _ (.head _)) rfl)) ?_)
    (refine WL.want rfl (WL1.callF rfl rfl rfl (.cons (.mk (v := cellPtr _ _) rfl rfl) (.cons (.mk (v := .int _ _) rfl rfl) .nil)) (fun w hw => HR [_, _] w hw) ?_); rintro _ _ ⟨rfl, rfl⟩)
    refine WL.want rfl (WL1.give rfl (g_build (cs := [_, _, _]) rfl rfl rfl rfl (.cons (.mk (v := .int _ _) rfl rfl) .nil) rfl rfl rfl) ?_)
    refine WL.want rfl (WL1.storeAll rfl rfl (.mk rfl rfl) (.mk rfl rfl) rfl (all1 rfl) (by first | rfl | (simp [Blk.len]; done)) (.tail (.tail (.tail (.head)))) ?_)
    refine WL.nil ?_
    (refine hK _ _ ?_; clear hK)
    refine WC.ret ?_
    exact ⟨_, .cell rfl rfl rfl rfl (by first | ((repeat (first | exact .head _ | apply List.Mem.tail)); done) | fail) .nil, fun w' hw' => ⟨_, _, rfl, hw'.sub (.cons_cons _ (.cons_cons _ (.cons_cons _ (.cons _ (.cons _ (.refl _)))))), A, c, _, js, h.succ, rfl, rfl⟩⟩
set_option maxRecDepth 20000 in
set_option maxHeartbeats 1000000 in
theorem do_pick (h : CS k es js) (hw : H w0 (schd S A c js.length es ++ jbs js :: L) w) :
    Calls Try.prog 17 #[bp S, actV 2 n mo] w (CallPost w0 L S k (nxt js.length (rOf js es) 2 n mo)) := by
  have hl := h.len
  unfold nxt
  rw [if_neg (by decide), if_neg (by decide), if_pos rfl, rOf_len]
  by_cases h1 : es.length = 0
  · rw [if_pos h1]
    refine calls_wcG (args := [bp S, actV 2 n mo]) [.cell 4 51] (schd S A c js.length es ++ jbs js :: L) Try.func17 rfl Try.ntmps17 rfl rfl hw ?_
    (refine WC.seq ?_; intro K hK)
    refine WC.region rfl ?_
    refine WL.want rfl (WL1.box rfl rfl (.mk (v := .agg _) rfl rfl) rfl (fun b3 => ?_))
    refine WL.want rfl (WL1.alloc rfl rfl rfl rfl (fun b4 => ?_))
    refine WL.nil ?_
    (refine hK _ _ ?_; clear hK)
    (refine WC.seq ?_; intro K hK)
    (refine WC.seq ?_; intro K hK)
    refine WC.region rfl ?_
    refine WL.want rfl (WL1.give rfl (g_fieldAddr (off := 0) rfl (.mk rfl rfl) rfl (fun _ _ => rfl)) ?_)
    refine WL.want rfl (WL1.give rfl (g_load rfl (.mk rfl rfl) rfl (rd_pt (.tail _ (.head _)) rfl)) ?_)
    refine WL.nil ?_
    (refine hK _ _ ?_; clear hK)
    refine WC.block ?_
    (refine WC.seq ?_; intro K hK)
    refine WC.region rfl ?_
    refine WL.want rfl (WL1.give rfl (g_eq rfl (.mk rfl rfl) (.mk rfl rfl) (decide_eq_false (by omega))) ?_)
    refine WL.want rfl (WL1.give rfl (g_assign rfl (.mk (v := .bool _) rfl rfl)) ?_)
    refine WL.nil ?_
    (refine hK _ _ ?_; clear hK)
    refine WC.cond_false (.mk rfl rfl) ?_
    (refine WC.seq ?_; intro K hK)
    refine WC.region rfl ?_
    refine WL.want rfl (WL1.give rfl (g_eq rfl (.mk rfl rfl) (.mk rfl rfl) (decide_eq_false (by omega))) ?_)
    refine WL.want rfl (WL1.give rfl (g_assign rfl (.mk (v := .bool _) rfl rfl)) ?_)
    refine WL.nil ?_
    (refine hK _ _ ?_; clear hK)
    refine WC.cond_false (.mk rfl rfl) ?_
    (refine WC.seq ?_; intro K hK)
    refine WC.region rfl ?_
    refine WL.want rfl (WL1.give rfl (g_eq rfl (.mk rfl rfl) (.mk rfl rfl) (decide_eq_true (by omega))) ?_)
    refine WL.want rfl (WL1.give rfl (g_assign rfl (.mk (v := .bool _) rfl rfl)) ?_)
    refine WL.nil ?_
    (refine hK _ _ ?_; clear hK)
    refine WC.cond_true (.mk rfl rfl) ?_
    (refine WC.seq ?_; intro K hK)
    refine WC.region rfl ?_
    refine WL.want rfl (WL1.give rfl (g_move rfl (.mk (v := cellPtr _ _) rfl rfl)) ?_)
    refine WL.want rfl (WL1.give rfl (g_fieldAddr (off := 1) rfl (.mk rfl rfl) rfl (fun _ _ => rfl)) ?_)
    refine WL.want rfl (WL1.give rfl (g_load rfl (.mk rfl rfl) rfl (rd_pt (.tail _ (.head _)) rfl)) ?_)
    refine WL.want rfl (WL1.callP rfl rfl rfl (.cons (.mk (v := cellPtr _ _) rfl rfl) (.cons (.mk (v := .int _ _) rfl rfl) .nil)) (fun w hw => pick_no h1 (hw.perm (List.perm_append_comm_assoc [_, _] (schd S A c js.length es) (jbs js :: L)))) ?_)
    refine WL.want rfl (WL1.give rfl (g_move rfl (.mk (v := .tuple _) rfl rfl)) ?_)
    refine WL.want rfl (WL1.give rfl (g_extract rfl (.mk rfl rfl) rfl) ?_)
    refine WL.want rfl (WL1.give rfl (g_extract rfl (.mk rfl rfl) rfl) ?_)
    refine WL.want rfl (WL1.give rfl (g_extract rfl (.mk rfl rfl) rfl) ?_)
    refine WL.want rfl (WL1.give rfl (g_assign rfl (.mk (v := .int _ _) rfl rfl)) ?_)
    refine WL.want rfl (WL1.give rfl (g_assign rfl (.mk (v := .bool _) rfl rfl)) ?_)
    refine WL.want rfl (WL1.give rfl (g_assign rfl (.mk (v := .int _ _) rfl rfl)) ?_)
    refine WL.nil ?_
    (refine hK _ _ ?_; clear hK)
    (refine WC.seq ?_; intro K hK)
    refine WC.region rfl ?_
    refine WL.want rfl (WL1.give rfl (g_move rfl (.mk (v := .int _ _) rfl rfl)) ?_)
    refine WL.want rfl (WL1.give rfl (g_move rfl (.mk (v := .bool _) rfl rfl)) ?_)
    refine WL.want rfl (WL1.give rfl (g_move rfl (.mk (v := .int _ _) rfl rfl)) ?_)
    refine WL.want rfl (WL1.give rfl (g_build (cs := [_, _, _]) rfl rfl rfl rfl (.cons (.mk (v := .int _ _) rfl rfl) (.cons (.mk (v := .bool _) rfl rfl) (.cons (.mk (v := .int _ _) rfl rfl) .nil))) rfl rfl rfl) ?_)
    refine WL.want rfl (WL1.storeAll rfl rfl (.mk rfl rfl) (.mk rfl rfl) rfl (all1 rfl) (by first | rfl | (simp [Blk.len]; done)) (.head) ?_)
    refine WL.nil ?_
    (refine hK _ _ ?_; clear hK)
    refine WC.ret ?_
    exact ⟨_, .cell rfl rfl rfl rfl (by first | ((repeat (first | exact .head _ | apply List.Mem.tail)); done) | fail) .nil, fun w' hw' => ⟨_, _, rfl, hw'.sub (.cons _ (.cons _ (.refl _))), A, c, es, js, h.succ, rfl, rfl⟩⟩
  rw [if_neg h1]
  by_cases h2 : n < 0
  · rw [if_pos h2]
    refine calls_wcG (args := [bp S, actV 2 n mo]) [.cell 4 51] (schd S A c js.length es ++ jbs js :: L) Try.func17 rfl Try.ntmps17 rfl rfl hw ?_
    (refine WC.seq ?_; intro K hK)
    refine WC.region rfl ?_
    refine WL.want rfl (WL1.box rfl rfl (.mk (v := .agg _) rfl rfl) rfl (fun b3 => ?_))
    refine WL.want rfl (WL1.alloc rfl rfl rfl rfl (fun b4 => ?_))
    refine WL.nil ?_
    (refine hK _ _ ?_; clear hK)
    (refine WC.seq ?_; intro K hK)
    (refine WC.seq ?_; intro K hK)
    refine WC.region rfl ?_
    refine WL.want rfl (WL1.give rfl (g_fieldAddr (off := 0) rfl (.mk rfl rfl) rfl (fun _ _ => rfl)) ?_)
    refine WL.want rfl (WL1.give rfl (g_load rfl (.mk rfl rfl) rfl (rd_pt (.tail _ (.head _)) rfl)) ?_)
    refine WL.nil ?_
    (refine hK _ _ ?_; clear hK)
    refine WC.block ?_
    (refine WC.seq ?_; intro K hK)
    refine WC.region rfl ?_
    refine WL.want rfl (WL1.give rfl (g_eq rfl (.mk rfl rfl) (.mk rfl rfl) (decide_eq_false (by omega))) ?_)
    refine WL.want rfl (WL1.give rfl (g_assign rfl (.mk (v := .bool _) rfl rfl)) ?_)
    refine WL.nil ?_
    (refine hK _ _ ?_; clear hK)
    refine WC.cond_false (.mk rfl rfl) ?_
    (refine WC.seq ?_; intro K hK)
    refine WC.region rfl ?_
    refine WL.want rfl (WL1.give rfl (g_eq rfl (.mk rfl rfl) (.mk rfl rfl) (decide_eq_false (by omega))) ?_)
    refine WL.want rfl (WL1.give rfl (g_assign rfl (.mk (v := .bool _) rfl rfl)) ?_)
    refine WL.nil ?_
    (refine hK _ _ ?_; clear hK)
    refine WC.cond_false (.mk rfl rfl) ?_
    (refine WC.seq ?_; intro K hK)
    refine WC.region rfl ?_
    refine WL.want rfl (WL1.give rfl (g_eq rfl (.mk rfl rfl) (.mk rfl rfl) (decide_eq_true (by omega))) ?_)
    refine WL.want rfl (WL1.give rfl (g_assign rfl (.mk (v := .bool _) rfl rfl)) ?_)
    refine WL.nil ?_
    (refine hK _ _ ?_; clear hK)
    refine WC.cond_true (.mk rfl rfl) ?_
    (refine WC.seq ?_; intro K hK)
    refine WC.region rfl ?_
    refine WL.want rfl (WL1.give rfl (g_move rfl (.mk (v := cellPtr _ _) rfl rfl)) ?_)
    refine WL.want rfl (WL1.give rfl (g_fieldAddr (off := 1) rfl (.mk rfl rfl) rfl (fun _ _ => rfl)) ?_)
    refine WL.want rfl (WL1.give rfl (g_load rfl (.mk rfl rfl) rfl (rd_pt (.tail _ (.head _)) rfl)) ?_)
    refine WL.want rfl (WL1.callP rfl rfl rfl (.cons (.mk (v := cellPtr _ _) rfl rfl) (.cons (.mk (v := .int _ _) rfl rfl) .nil)) (fun w hw => pick_arg (by omega) h2 (hw.perm (List.perm_append_comm_assoc [_, _] (schd S A c js.length es) (jbs js :: L)))) ?_)
    refine WL.want rfl (WL1.give rfl (g_move rfl (.mk (v := .tuple _) rfl rfl)) ?_)
    refine WL.want rfl (WL1.give rfl (g_extract rfl (.mk rfl rfl) rfl) ?_)
    refine WL.want rfl (WL1.give rfl (g_extract rfl (.mk rfl rfl) rfl) ?_)
    refine WL.want rfl (WL1.give rfl (g_extract rfl (.mk rfl rfl) rfl) ?_)
    refine WL.want rfl (WL1.give rfl (g_assign rfl (.mk (v := .int _ _) rfl rfl)) ?_)
    refine WL.want rfl (WL1.give rfl (g_assign rfl (.mk (v := .bool _) rfl rfl)) ?_)
    refine WL.want rfl (WL1.give rfl (g_assign rfl (.mk (v := .int _ _) rfl rfl)) ?_)
    refine WL.nil ?_
    (refine hK _ _ ?_; clear hK)
    (refine WC.seq ?_; intro K hK)
    refine WC.region rfl ?_
    refine WL.want rfl (WL1.give rfl (g_move rfl (.mk (v := .int _ _) rfl rfl)) ?_)
    refine WL.want rfl (WL1.give rfl (g_move rfl (.mk (v := .bool _) rfl rfl)) ?_)
    refine WL.want rfl (WL1.give rfl (g_move rfl (.mk (v := .int _ _) rfl rfl)) ?_)
    refine WL.want rfl (WL1.give rfl (g_build (cs := [_, _, _]) rfl rfl rfl rfl (.cons (.mk (v := .int _ _) rfl rfl) (.cons (.mk (v := .bool _) rfl rfl) (.cons (.mk (v := .int _ _) rfl rfl) .nil))) rfl rfl rfl) ?_)
    refine WL.want rfl (WL1.storeAll rfl rfl (.mk rfl rfl) (.mk rfl rfl) rfl (all1 rfl) (by first | rfl | (simp [Blk.len]; done)) (.head) ?_)
    refine WL.nil ?_
    (refine hK _ _ ?_; clear hK)
    refine WC.ret ?_
    exact ⟨_, .cell rfl rfl rfl rfl (by first | ((repeat (first | exact .head _ | apply List.Mem.tail)); done) | fail) .nil, fun w' hw' => ⟨_, _, rfl, hw'.sub (.cons _ (.cons _ (.refl _))), A, c, es, js, h.succ, rfl, rfl⟩⟩
  rw [if_neg h2]
  have t1 := Int.tmod_lt_of_pos n (show (0 : Int) < es.length by omega)
  have t2 := Int.tmod_nonneg (es.length : Int) (show 0 ≤ n by omega)
  obtain ⟨q, hq⟩ : ∃ q : Nat, n.tmod es.length = (q : Int) := ⟨(n.tmod es.length).toNat, by omega⟩
  rw [hq] at t1 ⊢
  have hql : q < es.length := by omega
  rw [Int.toNat_natCast, rOf_stA hql, ← rOf_stp h.ok hql]
  have HP : ∀ (L1 : List Asrt) w', H w0 (L1 ++ (schd S A c js.length es ++ jbs js :: L)) w' → Calls Try.prog 13 #[bp S, iv n] w' fun e w'' => ∃ u L', e = .returned u ∧ H w0 L' w'' ∧ u = .tuple #[iv (nth es q).id, .bool (decide ((nth js (nth es q).q).stp.l = 0)), iv 0] ∧ L' = schd S A c js.length (stpE es js q) ++ jbs (stpJ es js q) :: (L1 ++ L) := fun L1 w' hw' =>
    pick_f (by omega) hql (by omega) hq h.ok (hw'.perm ((List.perm_append_comm_assoc L1 (schd S A c js.length es) (jbs js :: L)).trans (List.Perm.append_left _ List.perm_middle)))
  refine calls_wcG (args := [bp S, actV 2 n mo]) [.cell 4 51] (schd S A c js.length es ++ jbs js :: L) Try.func17 rfl Try.ntmps17 rfl rfl hw ?_
  (refine WC.seq ?_; intro K hK)
  refine WC.region rfl ?_
  refine WL.want rfl (WL1.box rfl rfl (.mk (v := .agg _) rfl rfl) rfl (fun b3 => ?_))
  refine WL.want rfl (WL1.alloc rfl rfl rfl rfl (fun b4 => ?_))
  refine WL.nil ?_
  (refine hK _ _ ?_; clear hK)
  (refine WC.seq ?_; intro K hK)
  (refine WC.seq ?_; intro K hK)
  refine WC.region rfl ?_
  refine WL.want rfl (WL1.give rfl (g_fieldAddr (off := 0) rfl (.mk rfl rfl) rfl (fun _ _ => rfl)) ?_)
  refine WL.want rfl (WL1.give rfl (g_load rfl (.mk rfl rfl) rfl (rd_pt (.tail _ (.head _)) rfl)) ?_)
  refine WL.nil ?_
  (refine hK _ _ ?_; clear hK)
  refine WC.block ?_
  (refine WC.seq ?_; intro K hK)
  refine WC.region rfl ?_
  refine WL.want rfl (WL1.give rfl (g_eq rfl (.mk rfl rfl) (.mk rfl rfl) (decide_eq_false (by omega))) ?_)
  refine WL.want rfl (WL1.give rfl (g_assign rfl (.mk (v := .bool _) rfl rfl)) ?_)
  refine WL.nil ?_
  (refine hK _ _ ?_; clear hK)
  refine WC.cond_false (.mk rfl rfl) ?_
  (refine WC.seq ?_; intro K hK)
  refine WC.region rfl ?_
  refine WL.want rfl (WL1.give rfl (g_eq rfl (.mk rfl rfl) (.mk rfl rfl) (decide_eq_false (by omega))) ?_)
  refine WL.want rfl (WL1.give rfl (g_assign rfl (.mk (v := .bool _) rfl rfl)) ?_)
  refine WL.nil ?_
  (refine hK _ _ ?_; clear hK)
  refine WC.cond_false (.mk rfl rfl) ?_
  (refine WC.seq ?_; intro K hK)
  refine WC.region rfl ?_
  refine WL.want rfl (WL1.give rfl (g_eq rfl (.mk rfl rfl) (.mk rfl rfl) (decide_eq_true (by omega))) ?_)
  refine WL.want rfl (WL1.give rfl (g_assign rfl (.mk (v := .bool _) rfl rfl)) ?_)
  refine WL.nil ?_
  (refine hK _ _ ?_; clear hK)
  refine WC.cond_true (.mk rfl rfl) ?_
  (refine WC.seq ?_; intro K hK)
  refine WC.region rfl ?_
  refine WL.want rfl (WL1.give rfl (g_move rfl (.mk (v := cellPtr _ _) rfl rfl)) ?_)
  refine WL.want rfl (WL1.give rfl (g_fieldAddr (off := 1) rfl (.mk rfl rfl) rfl (fun _ _ => rfl)) ?_)
  refine WL.want rfl (WL1.give rfl (g_load rfl (.mk rfl rfl) rfl (rd_pt (.tail _ (.head _)) rfl)) ?_)
  (refine WL.want rfl (WL1.callF rfl rfl rfl (.cons (.mk (v := cellPtr _ _) rfl rfl) (.cons (.mk (v := .int _ _) rfl rfl) .nil)) (fun w hw => HP [_, _] w hw) ?_); rintro _ _ ⟨rfl, rfl⟩)
  refine WL.want rfl (WL1.give rfl (g_move rfl (.mk (v := .tuple _) rfl rfl)) ?_)
  refine WL.want rfl (WL1.give rfl (g_extract rfl (.mk rfl rfl) rfl) ?_)
  refine WL.want rfl (WL1.give rfl (g_extract rfl (.mk rfl rfl) rfl) ?_)
  refine WL.want rfl (WL1.give rfl (g_extract rfl (.mk rfl rfl) rfl) ?_)
  refine WL.want rfl (WL1.give rfl (g_assign rfl (.mk (v := .int _ _) rfl rfl)) ?_)
  refine WL.want rfl (WL1.give rfl (g_assign rfl (.mk (v := .bool _) rfl rfl)) ?_)
  refine WL.want rfl (WL1.give rfl (g_assign rfl (.mk (v := .int _ _) rfl rfl)) ?_)
  refine WL.nil ?_
  (refine hK _ _ ?_; clear hK)
  (refine WC.seq ?_; intro K hK)
  refine WC.region rfl ?_
  refine WL.want rfl (WL1.give rfl (g_move rfl (.mk (v := .int _ _) rfl rfl)) ?_)
  refine WL.want rfl (WL1.give rfl (g_move rfl (.mk (v := .bool _) rfl rfl)) ?_)
  refine WL.want rfl (WL1.give rfl (g_move rfl (.mk (v := .int _ _) rfl rfl)) ?_)
  refine WL.want rfl (WL1.give rfl (g_build (cs := [_, _, _]) rfl rfl rfl rfl (.cons (.mk (v := .int _ _) rfl rfl) (.cons (.mk (v := .bool _) rfl rfl) (.cons (.mk (v := .int _ _) rfl rfl) .nil))) rfl rfl rfl) ?_)
  refine WL.want rfl (WL1.storeAll rfl rfl (.mk rfl rfl) (.mk rfl rfl) rfl (all1 rfl) (by first | rfl | (simp [Blk.len]; done)) (.tail (.tail (.tail (.tail (.head))))) ?_)
  refine WL.nil ?_
  (refine hK _ _ ?_; clear hK)
  refine WC.ret ?_
  exact ⟨_, .cell rfl rfl rfl rfl (by first | ((repeat (first | exact .head _ | apply List.Mem.tail)); done) | fail) .nil, fun w' hw' => ⟨_, _, rfl, hw'.sub (.cons_cons _ (.cons_cons _ (.cons_cons _ (.cons_cons _ (.cons _ (.cons _ (.refl _))))))), A, c, _, _, h.stp, by rw [stpJ_len]; rfl, by rw [stpJ_len]; rfl⟩⟩
set_option maxRecDepth 20000 in
set_option maxHeartbeats 1000000 in
theorem do_fair (h : CS k es js) (hk : k ≤ 1000) (hw : H w0 (schd S A c js.length es ++ jbs js :: L) w) :
    Calls Try.prog 17 #[bp S, actV 3 n mo] w (CallPost w0 L S k (nxt js.length (rOf js es) 3 n mo)) := by
  have hl := h.len
  unfold nxt
  rw [if_neg (by decide), if_neg (by decide), if_neg (by decide), rOf_len]
  by_cases h1 : es.length = 0
  · rw [if_pos h1]
    refine calls_wcG (args := [bp S, actV 3 n mo]) [.cell 4 51] (schd S A c js.length es ++ jbs js :: L) Try.func17 rfl Try.ntmps17 rfl rfl hw ?_
    (refine WC.seq ?_; intro K hK)
    refine WC.region rfl ?_
    refine WL.want rfl (WL1.box rfl rfl (.mk (v := .agg _) rfl rfl) rfl (fun b3 => ?_))
    refine WL.want rfl (WL1.alloc rfl rfl rfl rfl (fun b4 => ?_))
    refine WL.nil ?_
    (refine hK _ _ ?_; clear hK)
    (refine WC.seq ?_; intro K hK)
    (refine WC.seq ?_; intro K hK)
    refine WC.region rfl ?_
    refine WL.want rfl (WL1.give rfl (g_fieldAddr (off := 0) rfl (.mk rfl rfl) rfl (fun _ _ => rfl)) ?_)
    refine WL.want rfl (WL1.give rfl (g_load rfl (.mk rfl rfl) rfl (rd_pt (.tail _ (.head _)) rfl)) ?_)
    refine WL.nil ?_
    (refine hK _ _ ?_; clear hK)
    refine WC.block ?_
    (refine WC.seq ?_; intro K hK)
    refine WC.region rfl ?_
    refine WL.want rfl (WL1.give rfl (g_eq rfl (.mk rfl rfl) (.mk rfl rfl) (decide_eq_false (by omega))) ?_)
    refine WL.want rfl (WL1.give rfl (g_assign rfl (.mk (v := .bool _) rfl rfl)) ?_)
    refine WL.nil ?_
    (refine hK _ _ ?_; clear hK)
    refine WC.cond_false (.mk rfl rfl) ?_
    (refine WC.seq ?_; intro K hK)
    refine WC.region rfl ?_
    refine WL.want rfl (WL1.give rfl (g_eq rfl (.mk rfl rfl) (.mk rfl rfl) (decide_eq_false (by omega))) ?_)
    refine WL.want rfl (WL1.give rfl (g_assign rfl (.mk (v := .bool _) rfl rfl)) ?_)
    refine WL.nil ?_
    (refine hK _ _ ?_; clear hK)
    refine WC.cond_false (.mk rfl rfl) ?_
    (refine WC.seq ?_; intro K hK)
    refine WC.region rfl ?_
    refine WL.want rfl (WL1.give rfl (g_eq rfl (.mk rfl rfl) (.mk rfl rfl) (decide_eq_false (by omega))) ?_)
    refine WL.want rfl (WL1.give rfl (g_assign rfl (.mk (v := .bool _) rfl rfl)) ?_)
    refine WL.nil ?_
    (refine hK _ _ ?_; clear hK)
    refine WC.cond_false (.mk rfl rfl) ?_
    refine WC.skip ?_
    (refine hK _ _ ?_; clear hK)
    (refine WC.seq ?_; intro K hK)
    refine WC.region rfl ?_
    refine WL.want rfl (WL1.give rfl (g_move rfl (.mk (v := cellPtr _ _) rfl rfl)) ?_)
    refine WL.want rfl (WL1.callP rfl rfl rfl (.cons (.mk (v := cellPtr _ _) rfl rfl) .nil) (fun w hw => fair_no h1 (hw.perm (List.perm_append_comm_assoc [_, _] (schd S A c js.length es) (jbs js :: L)))) ?_)
    refine WL.want rfl (WL1.give rfl (g_move rfl (.mk (v := .tuple _) rfl rfl)) ?_)
    refine WL.want rfl (WL1.give rfl (g_extract rfl (.mk rfl rfl) rfl) ?_)
    refine WL.want rfl (WL1.give rfl (g_extract rfl (.mk rfl rfl) rfl) ?_)
    refine WL.want rfl (WL1.give rfl (g_extract rfl (.mk rfl rfl) rfl) ?_)
    refine WL.want rfl (WL1.give rfl (g_assign rfl (.mk (v := .int _ _) rfl rfl)) ?_)
    refine WL.want rfl (WL1.give rfl (g_assign rfl (.mk (v := .bool _) rfl rfl)) ?_)
    refine WL.want rfl (WL1.give rfl (g_assign rfl (.mk (v := .int _ _) rfl rfl)) ?_)
    refine WL.nil ?_
    (refine hK _ _ ?_; clear hK)
    (refine WC.seq ?_; intro K hK)
    refine WC.region rfl ?_
    refine WL.want rfl (WL1.give rfl (g_move rfl (.mk (v := .int _ _) rfl rfl)) ?_)
    refine WL.want rfl (WL1.give rfl (g_move rfl (.mk (v := .bool _) rfl rfl)) ?_)
    refine WL.want rfl (WL1.give rfl (g_move rfl (.mk (v := .int _ _) rfl rfl)) ?_)
    refine WL.want rfl (WL1.give rfl (g_build (cs := [_, _, _]) rfl rfl rfl rfl (.cons (.mk (v := .int _ _) rfl rfl) (.cons (.mk (v := .bool _) rfl rfl) (.cons (.mk (v := .int _ _) rfl rfl) .nil))) rfl rfl rfl) ?_)
    refine WL.want rfl (WL1.storeAll rfl rfl (.mk rfl rfl) (.mk rfl rfl) rfl (all1 rfl) (by first | rfl | (simp [Blk.len]; done)) (.head) ?_)
    refine WL.nil ?_
    (refine hK _ _ ?_; clear hK)
    refine WC.ret ?_
    exact ⟨_, .cell rfl rfl rfl rfl (by first | ((repeat (first | exact .head _ | apply List.Mem.tail)); done) | fail) .nil, fun w' hw' => ⟨_, _, rfl, hw'.sub (.cons _ (.cons _ (.refl _))), A, c, es, js, h.succ, rfl, rfl⟩⟩
  have h0 : 1 ≤ es.length := by omega
  have hb := fairB_lt h0
  have hbf : fairB es < (fairW es).length := by rw [fairW_len]; exact hb
  have hqf := fairW_q h0 hb
  have hidf : (nth (fairW es) (fairB es)).id = (nth es (fairB es)).id := by rw [fairW_at h0 hb, if_pos rfl]; rfl
  rw [if_neg h1, rOf_fairW h0, rOf_fairB, rOf_stA hbf, hqf, hidf, ← rOf_stp (h.ok.fairw h0) hbf]
  have HP : ∀ (L1 : List Asrt) w', H w0 (L1 ++ (schd S A c js.length es ++ jbs js :: L)) w' → Calls Try.prog 14 #[bp S] w' fun e w'' => ∃ u L', e = .returned u ∧ H w0 L' w'' ∧ u = .tuple #[iv (nth es (fairB es)).id, .bool (decide ((nth js (nth es (fairB es)).q).stp.l = 0)), iv 0] ∧ L' = schd S A c js.length (fairE es js) ++ jbs (fairJ es js) :: (L1 ++ L) := fun L1 w' hw' =>
    fair_f (by omega) h0 (h.bnd.bnd (by omega)) h.ok (hw'.perm ((List.perm_append_comm_assoc L1 (schd S A c js.length es) (jbs js :: L)).trans (List.Perm.append_left _ List.perm_middle)))
  have hjl : (fairJ es js).length = js.length := stpJ_len _ _ _
  refine calls_wcG (args := [bp S, actV 3 n mo]) [.cell 4 51] (schd S A c js.length es ++ jbs js :: L) Try.func17 rfl Try.ntmps17 rfl rfl hw ?_
  (refine WC.seq ?_; intro K hK)
  refine WC.region rfl ?_
  refine WL.want rfl (WL1.box rfl rfl (.mk (v := .agg _) rfl rfl) rfl (fun b3 => ?_))
  refine WL.want rfl (WL1.alloc rfl rfl rfl rfl (fun b4 => ?_))
  refine WL.nil ?_
  (refine hK _ _ ?_; clear hK)
  (refine WC.seq ?_; intro K hK)
  (refine WC.seq ?_; intro K hK)
  refine WC.region rfl ?_
  refine WL.want rfl (WL1.give rfl (g_fieldAddr (off := 0) rfl (.mk rfl rfl) rfl (fun _ _ => rfl)) ?_)
  refine WL.want rfl (WL1.give rfl (g_load rfl (.mk rfl rfl) rfl (rd_pt (.tail _ (.head _)) rfl)) ?_)
  refine WL.nil ?_
  (refine hK _ _ ?_; clear hK)
  refine WC.block ?_
  (refine WC.seq ?_; intro K hK)
  refine WC.region rfl ?_
  refine WL.want rfl (WL1.give rfl (g_eq rfl (.mk rfl rfl) (.mk rfl rfl) (decide_eq_false (by omega))) ?_)
  refine WL.want rfl (WL1.give rfl (g_assign rfl (.mk (v := .bool _) rfl rfl)) ?_)
  refine WL.nil ?_
  (refine hK _ _ ?_; clear hK)
  refine WC.cond_false (.mk rfl rfl) ?_
  (refine WC.seq ?_; intro K hK)
  refine WC.region rfl ?_
  refine WL.want rfl (WL1.give rfl (g_eq rfl (.mk rfl rfl) (.mk rfl rfl) (decide_eq_false (by omega))) ?_)
  refine WL.want rfl (WL1.give rfl (g_assign rfl (.mk (v := .bool _) rfl rfl)) ?_)
  refine WL.nil ?_
  (refine hK _ _ ?_; clear hK)
  refine WC.cond_false (.mk rfl rfl) ?_
  (refine WC.seq ?_; intro K hK)
  refine WC.region rfl ?_
  refine WL.want rfl (WL1.give rfl (g_eq rfl (.mk rfl rfl) (.mk rfl rfl) (decide_eq_false (by omega))) ?_)
  refine WL.want rfl (WL1.give rfl (g_assign rfl (.mk (v := .bool _) rfl rfl)) ?_)
  refine WL.nil ?_
  (refine hK _ _ ?_; clear hK)
  refine WC.cond_false (.mk rfl rfl) ?_
  refine WC.skip ?_
  (refine hK _ _ ?_; clear hK)
  (refine WC.seq ?_; intro K hK)
  refine WC.region rfl ?_
  refine WL.want rfl (WL1.give rfl (g_move rfl (.mk (v := cellPtr _ _) rfl rfl)) ?_)
  (refine WL.want rfl (WL1.callF rfl rfl rfl (.cons (.mk (v := cellPtr _ _) rfl rfl) .nil) (fun w hw => HP [_, _] w hw) ?_); rintro _ _ ⟨rfl, rfl⟩)
  refine WL.want rfl (WL1.give rfl (g_move rfl (.mk (v := .tuple _) rfl rfl)) ?_)
  refine WL.want rfl (WL1.give rfl (g_extract rfl (.mk rfl rfl) rfl) ?_)
  refine WL.want rfl (WL1.give rfl (g_extract rfl (.mk rfl rfl) rfl) ?_)
  refine WL.want rfl (WL1.give rfl (g_extract rfl (.mk rfl rfl) rfl) ?_)
  refine WL.want rfl (WL1.give rfl (g_assign rfl (.mk (v := .int _ _) rfl rfl)) ?_)
  refine WL.want rfl (WL1.give rfl (g_assign rfl (.mk (v := .bool _) rfl rfl)) ?_)
  refine WL.want rfl (WL1.give rfl (g_assign rfl (.mk (v := .int _ _) rfl rfl)) ?_)
  refine WL.nil ?_
  (refine hK _ _ ?_; clear hK)
  (refine WC.seq ?_; intro K hK)
  refine WC.region rfl ?_
  refine WL.want rfl (WL1.give rfl (g_move rfl (.mk (v := .int _ _) rfl rfl)) ?_)
  refine WL.want rfl (WL1.give rfl (g_move rfl (.mk (v := .bool _) rfl rfl)) ?_)
  refine WL.want rfl (WL1.give rfl (g_move rfl (.mk (v := .int _ _) rfl rfl)) ?_)
  refine WL.want rfl (WL1.give rfl (g_build (cs := [_, _, _]) rfl rfl rfl rfl (.cons (.mk (v := .int _ _) rfl rfl) (.cons (.mk (v := .bool _) rfl rfl) (.cons (.mk (v := .int _ _) rfl rfl) .nil))) rfl rfl rfl) ?_)
  refine WL.want rfl (WL1.storeAll rfl rfl (.mk rfl rfl) (.mk rfl rfl) rfl (all1 rfl) (by first | rfl | (simp [Blk.len]; done)) (.tail (.tail (.tail (.tail (.head))))) ?_)
  refine WL.nil ?_
  (refine hK _ _ ?_; clear hK)
  refine WC.ret ?_
  exact ⟨_, .cell rfl rfl rfl rfl (by first | ((repeat (first | exact .head _ | apply List.Mem.tail)); done) | fail) .nil, fun w' hw' => ⟨_, _, rfl, hw'.sub (.cons_cons _ (.cons_cons _ (.cons_cons _ (.cons_cons _ (.cons _ (.cons _ (.refl _))))))), A, c, _, _, h.fair h0 hk, by rw [hjl]; rfl, by rw [hjl]; rfl⟩⟩
end
end Go.Proofs.Ytbofagfilohhfaa
