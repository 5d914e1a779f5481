/- Fair of the scheduler, walked. No condition. -/
import Derived.Test.YtbofagfilohhfaaStp6
namespace Go.Proofs.Ytbofagfilohhfaa
set_option maxRecDepth 20000
open Go.RowKit
attribute [local irreducible] Calls
/-- The entry that a fair pick chooses pays for the others. -/
def En.pay (e : En) (s : Int) : En := { e with cr := e.cr - s }
def fairB (es : List En) : Nat := bst (es.map En.add) es.length
/-- The entries after a fair pick, its step aside. -/
def fairW (es : List En) : List En := (es.map En.add).set (fairB es) ((nth (es.map En.add) (fairB es)).pay (sumW es es.length))
theorem fairB_lt {es : List En} (h : 1 ≤ es.length) : fairB es < es.length := by
  have := bst_lt (es.map En.add) es.length
  unfold fairB
  omega
theorem fairW_len (es : List En) : (fairW es).length = es.length := by simp [fairW]
theorem ptrs_set {es : List En} {k : Nat} {e : En} (hk : k < es.length) (h : e.p = (nth es k).p) : ptrs (es.set k e) = ptrs es := by
  unfold ptrs
  rw [List.map_set, h, nth_eq hk]
  have : bp es[k].p = (es.map fun e => bp e.p)[k]'(by simpa using hk) := by rw [List.getElem_map]
  rw [this, List.set_getElem_self]
theorem ptrs_fairW {es : List En} (h : 1 ≤ es.length) : ptrs (fairW es) = ptrs es := by
  unfold fairW
  rw [ptrs_set (es := es.map En.add) (k := fairB es) (e := (nth (es.map En.add) (fairB es)).pay (sumW es es.length)) (by rw [List.length_map]; exact fairB_lt h) rfl, ptrs_addW]
theorem nth_fairW {es : List En} (h : 1 ≤ es.length) : nth (fairW es) (fairB es) = (nth (es.map En.add) (fairB es)).pay (sumW es es.length) := by
  rw [nth_eq (by rw [fairW_len]; exact fairB_lt h)]
  unfold fairW
  rw [List.getElem_set_self]
theorem bnd_cr {es : List En} (h : Bnd es) {i : Nat} (hi : i < es.length) : -1000000016 ≤ (nth es i).add.cr ∧ (nth es i).add.cr ≤ 1000000016 := by
  have := h i hi
  show _ ≤ (nth es i).cr + (nth es i).wt ∧ (nth es i).cr + (nth es i).wt ≤ _
  omega
section
variable {w0 w : World} {L : List Asrt} {S c k j : Nat} {A : Option Addr} {last l d x : Int} {es : List En}
set_option maxRecDepth 20000 in
theorem fair_no (hl : es.length = 0) (hw : H w0 (schd S A c last es ++ L) w) :
    Calls Try.prog 14 #[bp S] w fun e w' => e = .returned (.tuple #[iv 0, .bool false, iv 9]) ∧ Below w.heap.size w w' := by
  have hS0 : w.cell? ⟨S, 0, none⟩ = some (.slice A es.length c) := cell_pt hw (.head _) rfl
  refine calls_wc (args := [bp S]) [2, 3, 4] ([]) Try.func14 rfl Try.ntmps14 rfl rfl rfl rfl (H.refl w) ?_
  (refine WC.seq ?_; intro K hK)
  refine WC.region rfl ?_
  refine WL.want rfl (WL1.give rfl (g_assign rfl (.mk (v := .int _ _) rfl rfl)) ?_)
  refine WL.want rfl (WL1.give rfl (g_assign rfl (.mk (v := .bool _) rfl rfl)) ?_)
  refine WL.want rfl (WL1.give rfl (g_assign rfl (.mk (v := .int _ _) rfl rfl)) ?_)
  refine WL.nil ?_
  (refine hK _ _ ?_; clear hK)
  (refine WC.seq ?_; intro K hK)
  (refine WC.seq ?_; intro K hK)
  refine WC.region rfl ?_
  refine WL.want rfl (WL1.give rfl (g_move rfl (.mk (v := cellPtr _ _) rfl rfl)) ?_)
  refine WL.want rfl (WL1.give rfl (g_eqPN rfl (.mk rfl rfl) (.mk rfl rfl) rfl (fun _ _ => rfl)) ?_)
  refine WL.want rfl (WL1.give rfl (g_move rfl (.mk (v := .bool _) rfl rfl)) ?_)
  refine WL.wantG rfl rfl rfl rfl (WL1.give rfl (g_move rfl (.mk (v := cellPtr _ _) rfl rfl)) ?_)
  refine WL.wantG rfl rfl rfl rfl (WL1.give rfl (g_nilCheck rfl (.mk rfl rfl) (fun _ _ => rfl)) ?_)
  refine WL.wantG rfl rfl rfl rfl (WL1.give rfl (g_fieldAddr (off := 0) rfl (.mk rfl rfl) rfl (fun _ _ => rfl)) ?_)
  refine WL.wantG rfl rfl rfl rfl (WL1.give rfl (g_load rfl (.mk rfl rfl) rfl (rd_wb hS0)) ?_)
  refine WL.wantG rfl rfl rfl rfl (WL1.give rfl (g_len rfl (.mk rfl rfl) rfl) ?_)
  refine WL.wantG rfl rfl rfl rfl (WL1.give rfl (g_eq rfl (.mk rfl rfl) (.mk rfl rfl) (decide_eq_true (by omega))) ?_)
  refine WL.want rfl (WL1.give rfl (g_pickF rfl (.mk rfl rfl) (.mk (v := .bool _) rfl rfl)) ?_)
  refine WL.nil ?_
  (refine hK _ _ ?_; clear hK)
  refine WC.cond_true (.mk rfl rfl) ?_
  (refine WC.seq ?_; intro K hK)
  refine WC.region rfl ?_
  refine WL.want rfl (WL1.give rfl (g_assign rfl (.mk (v := .int _ _) rfl rfl)) ?_)
  refine WL.want rfl (WL1.give rfl (g_assign rfl (.mk (v := .bool _) rfl rfl)) ?_)
  refine WL.want rfl (WL1.give rfl (g_assign rfl (.mk (v := .int _ _) rfl rfl)) ?_)
  refine WL.nil ?_
  (refine hK _ _ ?_; clear hK)
  refine WC.ret ?_
  exact fun w' hw' => ⟨rfl, hw'.1⟩
set_option maxRecDepth 20000 in
set_option maxHeartbeats 1000000 in
theorem fair_e (hm : es.length ≤ 64) (h0 : 1 ≤ es.length) (hB : Bnd es) (hk : fairB es = k) (hx : idN (fairW es) (nth es k).id = k) (hj : (nth es k).j = j) (hw : H w0 (schd S A c last es ++ pt j JT [iv l, iv d] :: L) w) :
    Calls Try.prog 14 #[bp S] w fun e w' => ∃ u L', e = .returned u ∧ H w0 L' w' ∧ u = .tuple #[iv (nth es k).id, .bool (decide (wr (l - 1) = 0)), iv 0] ∧ L' = schd S A c last (if wr (l - 1) = 0 then (fairW es).eraseIdx k else fairW es) ++ pt j JT [iv (wr (l - 1)), iv (wr (d + 1))] :: L := by
  have hkl : k < es.length := hk ▸ fairB_lt h0
  have hml : (es.map En.add).length = es.length := List.length_map _
  have hp0 := ptrs_get (es := es) (k := 0) (by omega)
  have hnk : nth (es.map En.add) k = (nth es k).add := nth_add hkl
  have hfw : fairW es = (es.map En.add).set k ((nth (es.map En.add) k).pay (sumW es es.length)) := by rw [← hk]; rfl
  have HS : ∀ w', H w0 (pt S ST [.slice A es.length c, iv last] :: vec A es.length c PT 1 (ptrs es) :: ents ((es.map En.add).set k ((nth (es.map En.add) k).pay (sumW es es.length))) :: pt j JT [iv l, iv d] :: L) w' →
      Calls Try.prog 24 #[bp S, bp (nth (es.map En.add) k).p] w' fun e w'' => ∃ u L', e = .returned u ∧ H w0 L' w'' ∧ u = .tuple #[iv (nth es k).id, .bool (decide (wr (l - 1) = 0)), iv 0] ∧ L' = schd S A c last (if wr (l - 1) = 0 then (fairW es).eraseIdx k else fairW es) ++ pt j JT [iv (wr (l - 1)), iv (wr (d + 1))] :: L := fun w' hw' => by
    rw [← hfw] at hw'
    have hn : nth (fairW es) k = (nth (es.map En.add) k).pay (sumW es es.length) := by rw [← hk]; exact nth_fairW h0
    have h := step_e (w0 := w0) (w := w') (L := L) (S := S) (c := c) (A := A) (last := last) (l := l) (d := d) (es := fairW es) (k := k) (j := j) (by rw [fairW_len]; exact hm) (by rw [fairW_len]; exact hkl) (by rw [hn, hnk]; exact hx) (by rw [hn, hnk]; exact hj) (by
      show H w0 (pt S ST [.slice A (fairW es).length c, iv last] :: vec A (fairW es).length c PT 1 (ptrs (fairW es)) :: ents (fairW es) :: pt j JT [iv l, iv d] :: L) w'
      rw [fairW_len, ptrs_fairW h0]; exact hw')
    rw [hn, hnk] at h
    rw [hnk]
    exact h
  refine calls_wc (args := [bp S]) [2, 3, 4] (schd S A c last es ++ pt j JT [iv l, iv d] :: L) Try.func14 rfl Try.ntmps14 rfl rfl rfl rfl hw ?_
  (refine WC.seq ?_; intro K hK)
  refine WC.region rfl ?_
  refine WL.want rfl (WL1.give rfl (g_assign rfl (.mk (v := .int _ _) rfl rfl)) ?_)
  refine WL.want rfl (WL1.give rfl (g_assign rfl (.mk (v := .bool _) rfl rfl)) ?_)
  refine WL.want rfl (WL1.give rfl (g_assign rfl (.mk (v := .int _ _) rfl rfl)) ?_)
  refine WL.nil ?_
  (refine hK _ _ ?_; clear hK)
  (refine WC.seq ?_; intro K hK)
  (refine WC.seq ?_; intro K hK)
  refine WC.region rfl ?_
  refine WL.want rfl (WL1.give rfl (g_move rfl (.mk (v := cellPtr _ _) rfl rfl)) ?_)
  refine WL.want rfl (WL1.give rfl (g_eqPN rfl (.mk rfl rfl) (.mk rfl rfl) rfl (fun _ _ => rfl)) ?_)
  refine WL.want rfl (WL1.give rfl (g_move rfl (.mk (v := .bool _) rfl rfl)) ?_)
  refine WL.wantG rfl rfl rfl rfl (WL1.give rfl (g_move rfl (.mk (v := cellPtr _ _) rfl rfl)) ?_)
  refine WL.wantG rfl rfl rfl rfl (WL1.give rfl (g_nilCheck rfl (.mk rfl rfl) (fun _ _ => rfl)) ?_)
  refine WL.wantG rfl rfl rfl rfl (WL1.give rfl (g_fieldAddr (off := 0) rfl (.mk rfl rfl) rfl (fun _ _ => rfl)) ?_)
  refine WL.wantG rfl rfl rfl rfl (WL1.give rfl (g_load rfl (.mk rfl rfl) rfl (rd_pt (.head _) rfl)) ?_)
  refine WL.wantG rfl rfl rfl rfl (WL1.give rfl (g_len rfl (.mk rfl rfl) rfl) ?_)
  refine WL.wantG rfl rfl rfl rfl (WL1.give rfl (g_eq rfl (.mk rfl rfl) (.mk rfl rfl) (decide_eq_false (by omega))) ?_)
  refine WL.want rfl (WL1.give rfl (g_pickF rfl (.mk rfl rfl) (.mk (v := .bool _) rfl rfl)) ?_)
  refine WL.nil ?_
  (refine hK _ _ ?_; clear hK)
  refine WC.cond_false (.mk rfl rfl) ?_
  refine WC.skip ?_
  (refine hK _ _ ?_; clear hK)
  (refine WC.seq ?_; intro K hK)
  refine WC.region rfl ?_
  refine WL.want rfl (WL1.give rfl (g_assign rfl (.mk (v := .int _ _) rfl rfl)) ?_)
  refine WL.nil ?_
  (refine hK _ _ ?_; clear hK)
  (refine WC.seq ?_; intro K hK)
  refine WC.region rfl ?_
  refine WL.want rfl (WL1.give rfl (g_move rfl (.mk (v := cellPtr _ _) rfl rfl)) ?_)
  refine WL.want rfl (WL1.give rfl (g_nilCheck rfl (.mk rfl rfl) (fun _ _ => rfl)) ?_)
  refine WL.want rfl (WL1.give rfl (g_fieldAddr (off := 0) rfl (.mk rfl rfl) rfl (fun _ _ => rfl)) ?_)
  refine WL.want rfl (WL1.give rfl (g_load rfl (.mk rfl rfl) rfl (rd_pt (.head _) rfl)) ?_)
  refine WL.want rfl (WL1.give rfl (g_indexAddr (sz := 1) rfl (.mk rfl rfl) (.mk rfl rfl) rfl rfl (show _ = ((0 : Nat) : Int) from rfl) (by omega) (fun w hw => vec_some hw (.tail _ (.head _)) (by omega))) ?_)
  refine WL.want rfl (WL1.give rfl (g_load rfl (.mk rfl rfl) rfl (rd_vec (.tail _ (.head _)) hp0)) ?_)
  refine WL.want rfl (WL1.give rfl (g_assign rfl (.mk (v := cellPtr _ _) rfl rfl)) ?_)
  refine WL.nil ?_
  (refine hK _ _ ?_; clear hK)
  (refine WC.seq ?_; intro K hK)
  (refine WC.seq ?_; intro K hK)
  refine WC.region rfl ?_
  refine WL.want rfl (WL1.give rfl (g_move rfl (.mk (v := cellPtr _ _) rfl rfl)) ?_)
  refine WL.want rfl (WL1.give rfl (g_nilCheck rfl (.mk rfl rfl) (fun _ _ => rfl)) ?_)
  refine WL.want rfl (WL1.give rfl (g_fieldAddr (off := 0) rfl (.mk rfl rfl) rfl (fun _ _ => rfl)) ?_)
  refine WL.want rfl (WL1.give rfl (g_load rfl (.mk rfl rfl) rfl (rd_pt (.head _) rfl)) ?_)
  refine WL.want rfl (WL1.give rfl (g_len rfl (.mk rfl rfl) rfl) ?_)
  refine WL.want rfl (WL1.give rfl (g_move rfl (.mk (v := .int _ _) rfl rfl)) ?_)
  refine WL.nil ?_
  (refine hK _ _ ?_; clear hK)
  refine WC.block ?_
  refine WC.loopI (18014394214514976) (fun i : Nat => [(32, iv i), (5, iv (sumW es i))]) (fun i => pt S ST [.slice A es.length c, iv last] :: vec A es.length c PT 1 (ptrs es) :: ents (addW es i) :: pt j JT [iv l, iv d] :: L) (fun i => i ≤ es.length) (fun i => es.length - i) 0 ⟨rfl, rfl, trivial⟩ (by rw [addW_zero]; exact Imp.refl _) (by omega) ?_
  intro i U hi
  by_cases hlt : i < es.length
  · have hpi := ptrs_get hlt
    have hb := hB i hlt
    have hs := sumW_bnd hB i hi
    have hia : i < (addW es i).length := by rw [addW_len]; exact hlt
    have hai := addW_at hlt
    have hse : sumW es (i + 1) = sumW es i + (nth es i).wt := rfl
    refine WC.imp (Imp.cons (Imp.cons (ents_out hia))) ?_
    rw [hai]
    (refine WC.seq ?_; intro K hK)
    refine WC.region rfl ?_
    refine WL.want rfl (WL1.give rfl (g_lt rfl (.mk rfl rfl) (.mk rfl rfl) (decide_eq_true (by omega))) ?_)
    refine WL.nil ?_
    (refine hK _ _ ?_; clear hK)
    (refine WC.seq ?_; intro K hK)
    refine WC.cond_true (.mk rfl rfl) ?_
    refine WC.skip ?_
    (refine hK _ _ ?_; clear hK)
    (refine WC.seq ?_; intro K hK)
    refine WC.block ?_
    (refine WC.seq ?_; intro K hK)
    refine WC.region rfl ?_
    refine WL.want rfl (WL1.give rfl (g_indexAddr (sz := 1) rfl (.mk rfl rfl) (.mk rfl rfl) rfl rfl rfl (by omega) (fun w hw => vec_some hw (.tail _ (.head _)) (by omega))) ?_)
    refine WL.want rfl (WL1.give rfl (g_load rfl (.mk rfl rfl) rfl (rd_vec (.tail _ (.head _)) (get1 (by omega)))) ?_)
    refine WL.want rfl (WL1.give rfl (g_assign rfl (.mk (v := cellPtr _ _) rfl rfl)) ?_)
    refine WL.nil ?_
    (refine hK _ _ ?_; clear hK)
    (refine WC.seq ?_; intro K hK)
    refine WC.split 11 rfl (by kernel_rfl) (by decide +kernel) ?_
    refine WQ.want rfl (WQ1.give rfl (g_move rfl (.mk (v := cellPtr _ _) rfl rfl)) ?_)
    refine WQ.want rfl (WQ1.give rfl (g_nilCheck rfl (.mk rfl rfl) (fun _ _ => rfl)) ?_)
    refine WQ.want rfl (WQ1.give rfl (g_fieldAddr (off := 2) rfl (.mk rfl rfl) rfl (fun _ _ => rfl)) ?_)
    refine WQ.want rfl (WQ1.give rfl (g_load rfl (.mk rfl rfl) rfl (rd_pt (.tail _ (.tail _ (.head _))) rfl)) ?_)
    refine WQ.want rfl (WQ1.give rfl (g_move rfl (.mk (v := cellPtr _ _) rfl rfl)) ?_)
    refine WQ.want rfl (WQ1.give rfl (g_nilCheck rfl (.mk rfl rfl) (fun _ _ => rfl)) ?_)
    refine WQ.want rfl (WQ1.give rfl (g_fieldAddr (off := 1) rfl (.mk rfl rfl) rfl (fun _ _ => rfl)) ?_)
    refine WQ.want rfl (WQ1.give rfl (g_load rfl (.mk rfl rfl) rfl (rd_pt (.tail _ (.tail _ (.head _))) rfl)) ?_)
    refine WQ.want rfl (WQ1.give rfl (g_add rfl (.mk rfl rfl) (.mk rfl rfl) (IntWalk.i64_in _ (by omega))) ?_)
    refine WQ.want rfl (WQ1.give rfl (g_nilCheck rfl (.mk rfl rfl) (fun _ _ => rfl)) ?_)
    refine WQ.want rfl (WQ1.give rfl (g_fieldAddr (off := 2) rfl (.mk rfl rfl) rfl (fun _ _ => rfl)) ?_)
    refine WQ.nil ?_
    refine WY.one 11 (by decide +kernel) rfl rfl ?_
    refine WL1.store1 rfl rfl (.mk rfl rfl) (.mk (v := .int _ _) rfl rfl) rfl rfl (Nat.le_of_ble_eq_true rfl) (.tail (.tail (.head))) ?_
    refine WL.nil ?_
    refine WY.done (by decide +kernel) ?_
    (refine hK _ _ ?_; clear hK)
    refine WC.region rfl ?_
    refine WL.want rfl (WL1.give rfl (g_move rfl (.mk (v := .int _ _) rfl rfl)) ?_)
    refine WL.want rfl (WL1.give rfl (g_move rfl (.mk (v := cellPtr _ _) rfl rfl)) ?_)
    refine WL.want rfl (WL1.give rfl (g_nilCheck rfl (.mk rfl rfl) (fun _ _ => rfl)) ?_)
    refine WL.want rfl (WL1.give rfl (g_fieldAddr (off := 1) rfl (.mk rfl rfl) rfl (fun _ _ => rfl)) ?_)
    refine WL.want rfl (WL1.give rfl (g_load rfl (.mk rfl rfl) rfl (rd_pt (.tail _ (.tail _ (.head _))) rfl)) ?_)
    refine WL.want rfl (WL1.give rfl (g_add rfl (.mk rfl rfl) (.mk rfl rfl) (IntWalk.i64_in _ (by omega))) ?_)
    refine WL.want rfl (WL1.give rfl (g_assign rfl (.mk (v := .int _ _) rfl rfl)) ?_)
    refine WL.nil ?_
    (refine hK _ _ ?_; clear hK)
    refine WC.region rfl ?_
    refine WL.want rfl (WL1.give rfl (g_add rfl (.mk rfl rfl) (.mk rfl rfl) (IntWalk.i64_in _ (by omega))) ?_)
    refine WL.want rfl (WL1.give rfl (g_move rfl (.mk (v := .int _ _) rfl rfl)) ?_)
    refine WL.nil ?_
    refine ⟨i + 1, (by repeat (first | with_reducible exact Out.refl _ _ | refine Out.set rfl ?_ | refine Out.put rfl ?_ | refine Out.sets rfl ?_ | refine Out.hav rfl ?_ | exact Out.refl _ _)), ⟨rfl, rfl, trivial⟩, ?_, by omega, by omega⟩
    have := Imp.cons (A := pt S ST [.slice A es.length c, iv last]) (Imp.cons (A := vec A es.length c PT 1 (ptrs es)) (ents_back (L := pt j JT [iv l, iv d] :: L) (e := (nth es i).add) hia))
    rw [addW_set hlt] at this
    exact this
  · obtain rfl : i = es.length := by omega
    rw [addW_all]
    have hsB := sumW_bnd hB es.length (Nat.le_refl _)
    have hkm : k < (es.map En.add).length := by rw [hml]; exact hkl
    have hbk := bnd_cr hB hkl
    rw [← hnk] at hbk
    (refine WC.seq ?_; intro K hK)
    refine WC.region rfl ?_
    refine WL.want rfl (WL1.give rfl (g_lt rfl (.mk rfl rfl) (.mk rfl rfl) (decide_eq_false (by omega))) ?_)
    refine WL.nil ?_
    (refine hK _ _ ?_; clear hK)
    (refine WC.seq ?_; intro K hK)
    refine WC.cond_false (.mk rfl rfl) ?_
    refine WC.exit ?_
    (clear hK; refine hK _ _ ?_; clear hK)
    (refine WC.seq ?_; intro K hK)
    (refine WC.seq ?_; intro K hK)
    refine WC.region rfl ?_
    refine WL.want rfl (WL1.give rfl (g_move rfl (.mk (v := cellPtr _ _) rfl rfl)) ?_)
    refine WL.want rfl (WL1.give rfl (g_nilCheck rfl (.mk rfl rfl) (fun _ _ => rfl)) ?_)
    refine WL.want rfl (WL1.give rfl (g_fieldAddr (off := 0) rfl (.mk rfl rfl) rfl (fun _ _ => rfl)) ?_)
    refine WL.want rfl (WL1.give rfl (g_load rfl (.mk rfl rfl) rfl (rd_pt (.head _) rfl)) ?_)
    refine WL.want rfl (WL1.give rfl (g_len rfl (.mk rfl rfl) rfl) ?_)
    refine WL.want rfl (WL1.give rfl (g_move rfl (.mk (v := .int _ _) rfl rfl)) ?_)
    refine WL.nil ?_
    (refine hK _ _ ?_; clear hK)
    refine WC.block ?_
    refine WC.loopI (18888889470726277432384) (fun i : Nat => [(59, iv i), (6, bp (nth (es.map En.add) (bst (es.map En.add) i)).p)]) (fun _ => pt S ST [.slice A es.length c, iv last] :: vec A es.length c PT 1 (ptrs es) :: ents (es.map En.add) :: pt j JT [iv l, iv d] :: L) (fun i => i ≤ es.length) (fun i => es.length - i) 0 ⟨rfl, by rw [bst, nth_add (by omega)]; rfl, trivial⟩ (Imp.refl _) (by omega) ?_
    intro i U hi
    by_cases hlt : i < es.length
    · have hpi : (ptrs es)[i * 1]? = some (bp (nth (es.map En.add) i).p) := by rw [← ptrs_addW, Nat.mul_one]; exact ptrs_get (by rw [hml]; exact hlt)
      have hbl : bst (es.map En.add) i < es.length := by have := bst_lt (es.map En.add) i; omega
      have hmi := ent_mem (es := es.map En.add) (k := i) (by rw [hml]; exact hlt)
      have hmb := ent_mem (es := es.map En.add) (k := bst (es.map En.add) i) (by rw [hml]; exact hbl)
      have hbs : bst (es.map En.add) (i + 1) = if (nth (es.map En.add) (bst (es.map En.add) i)).cr < (nth (es.map En.add) i).cr then i else bst (es.map En.add) i := rfl
      by_cases hc : (nth (es.map En.add) (bst (es.map En.add) i)).cr < (nth (es.map En.add) i).cr
      · rw [if_pos hc] at hbs
        (refine WC.seq ?_; intro K hK)
        refine WC.region rfl ?_
        refine WL.want rfl (WL1.give rfl (g_lt rfl (.mk rfl rfl) (.mk rfl rfl) (decide_eq_true (by omega))) ?_)
        refine WL.nil ?_
        (refine hK _ _ ?_; clear hK)
        (refine WC.seq ?_; intro K hK)
        refine WC.cond_true (.mk rfl rfl) ?_
        refine WC.skip ?_
        (refine hK _ _ ?_; clear hK)
        (refine WC.seq ?_; intro K hK)
        refine WC.block ?_
        (refine WC.seq ?_; intro K hK)
        refine WC.region rfl ?_
        refine WL.want rfl (WL1.give rfl (g_indexAddr (sz := 1) rfl (.mk rfl rfl) (.mk rfl rfl) rfl rfl rfl (by omega) (fun w hw => vec_some hw (.tail _ (.head _)) (by omega))) ?_)
        refine WL.want rfl (WL1.give rfl (g_load rfl (.mk rfl rfl) rfl (rd_vec (.tail _ (.head _)) hpi)) ?_)
        refine WL.want rfl (WL1.give rfl (g_assign rfl (.mk (v := cellPtr _ _) rfl rfl)) ?_)
        refine WL.nil ?_
        (refine hK _ _ ?_; clear hK)
        (refine WC.seq ?_; intro K hK)
        refine WC.quiet rfl (by kernel_rfl) (by decide +kernel) ?_
        refine WQ.want rfl (WQ1.give rfl (g_move rfl (.mk (v := cellPtr _ _) rfl rfl)) ?_)
        refine WQ.want rfl (WQ1.give rfl (g_nilCheck rfl (.mk rfl rfl) (fun _ _ => rfl)) ?_)
        refine WQ.want rfl (WQ1.give rfl (g_fieldAddr (off := 2) rfl (.mk rfl rfl) rfl (fun _ _ => rfl)) ?_)
        refine WQ.want rfl (WQ1.give rfl (g_load rfl (.mk rfl rfl) rfl (rd_bun (M := (es.map En.add).map ent) (by first | ((repeat (first | exact .head _ | apply List.Mem.tail)); done) | fail) hmi rfl)) ?_)
        refine WQ.want rfl (WQ1.give rfl (g_move rfl (.mk (v := cellPtr _ _) rfl rfl)) ?_)
        refine WQ.want rfl (WQ1.give rfl (g_nilCheck rfl (.mk rfl rfl) (fun _ _ => rfl)) ?_)
        refine WQ.want rfl (WQ1.give rfl (g_fieldAddr (off := 2) rfl (.mk rfl rfl) rfl (fun _ _ => rfl)) ?_)
        refine WQ.want rfl (WQ1.give rfl (g_load rfl (.mk rfl rfl) rfl (rd_bun (M := (es.map En.add).map ent) (by first | ((repeat (first | exact .head _ | apply List.Mem.tail)); done) | fail) hmb rfl)) ?_)
        refine WQ.want rfl (WQ1.give rfl (g_gt rfl (.mk rfl rfl) (.mk rfl rfl) (decide_eq_true (by omega))) ?_)
        refine WQ.nil ?_
        (refine hK _ _ ?_; clear hK)
        refine WC.cond_true (.mk rfl rfl) ?_
        refine WC.region rfl ?_
        refine WL.want rfl (WL1.give rfl (g_move rfl (.mk (v := cellPtr _ _) rfl rfl)) ?_)
        refine WL.want rfl (WL1.give rfl (g_assign rfl (.mk (v := cellPtr _ _) rfl rfl)) ?_)
        refine WL.nil ?_
        (refine hK _ _ ?_; clear hK)
        refine WC.region rfl ?_
        refine WL.want rfl (WL1.give rfl (g_add rfl (.mk rfl rfl) (.mk rfl rfl) (IntWalk.i64_in _ (by omega))) ?_)
        refine WL.want rfl (WL1.give rfl (g_move rfl (.mk (v := .int _ _) rfl rfl)) ?_)
        refine WL.nil ?_
        exact ⟨i + 1, (by repeat (first | with_reducible exact Out.refl _ _ | refine Out.set rfl ?_ | refine Out.put rfl ?_ | refine Out.sets rfl ?_ | refine Out.hav rfl ?_ | exact Out.refl _ _)), ⟨rfl, by rw [hbs]; rfl, trivial⟩, Imp.refl _, by omega, by omega⟩
      · rw [if_neg hc] at hbs
        (refine WC.seq ?_; intro K hK)
        refine WC.region rfl ?_
        refine WL.want rfl (WL1.give rfl (g_lt rfl (.mk rfl rfl) (.mk rfl rfl) (decide_eq_true (by omega))) ?_)
        refine WL.nil ?_
        (refine hK _ _ ?_; clear hK)
        (refine WC.seq ?_; intro K hK)
        refine WC.cond_true (.mk rfl rfl) ?_
        refine WC.skip ?_
        (refine hK _ _ ?_; clear hK)
        (refine WC.seq ?_; intro K hK)
        refine WC.block ?_
        (refine WC.seq ?_; intro K hK)
        refine WC.region rfl ?_
        refine WL.want rfl (WL1.give rfl (g_indexAddr (sz := 1) rfl (.mk rfl rfl) (.mk rfl rfl) rfl rfl rfl (by omega) (fun w hw => vec_some hw (.tail _ (.head _)) (by omega))) ?_)
        refine WL.want rfl (WL1.give rfl (g_load rfl (.mk rfl rfl) rfl (rd_vec (.tail _ (.head _)) hpi)) ?_)
        refine WL.want rfl (WL1.give rfl (g_assign rfl (.mk (v := cellPtr _ _) rfl rfl)) ?_)
        refine WL.nil ?_
        (refine hK _ _ ?_; clear hK)
        (refine WC.seq ?_; intro K hK)
        refine WC.quiet rfl (by kernel_rfl) (by decide +kernel) ?_
        refine WQ.want rfl (WQ1.give rfl (g_move rfl (.mk (v := cellPtr _ _) rfl rfl)) ?_)
        refine WQ.want rfl (WQ1.give rfl (g_nilCheck rfl (.mk rfl rfl) (fun _ _ => rfl)) ?_)
        refine WQ.want rfl (WQ1.give rfl (g_fieldAddr (off := 2) rfl (.mk rfl rfl) rfl (fun _ _ => rfl)) ?_)
        refine WQ.want rfl (WQ1.give rfl (g_load rfl (.mk rfl rfl) rfl (rd_bun (M := (es.map En.add).map ent) (by first | ((repeat (first | exact .head _ | apply List.Mem.tail)); done) | fail) hmi rfl)) ?_)
        refine WQ.want rfl (WQ1.give rfl (g_move rfl (.mk (v := cellPtr _ _) rfl rfl)) ?_)
        refine WQ.want rfl (WQ1.give rfl (g_nilCheck rfl (.mk rfl rfl) (fun _ _ => rfl)) ?_)
        refine WQ.want rfl (WQ1.give rfl (g_fieldAddr (off := 2) rfl (.mk rfl rfl) rfl (fun _ _ => rfl)) ?_)
        refine WQ.want rfl (WQ1.give rfl (g_load rfl (.mk rfl rfl) rfl (rd_bun (M := (es.map En.add).map ent) (by first | ((repeat (first | exact .head _ | apply List.Mem.tail)); done) | fail) hmb rfl)) ?_)
        refine WQ.want rfl (WQ1.give rfl (g_gt rfl (.mk rfl rfl) (.mk rfl rfl) (decide_eq_false (by omega))) ?_)
        refine WQ.nil ?_
        (refine hK _ _ ?_; clear hK)
        refine WC.cond_false (.mk rfl rfl) ?_
        refine WC.skip ?_
        (refine hK _ _ ?_; clear hK)
        refine WC.region rfl ?_
        refine WL.want rfl (WL1.give rfl (g_add rfl (.mk rfl rfl) (.mk rfl rfl) (IntWalk.i64_in _ (by omega))) ?_)
        refine WL.want rfl (WL1.give rfl (g_move rfl (.mk (v := .int _ _) rfl rfl)) ?_)
        refine WL.nil ?_
        exact ⟨i + 1, (by repeat (first | with_reducible exact Out.refl _ _ | refine Out.set rfl ?_ | refine Out.put rfl ?_ | refine Out.sets rfl ?_ | refine Out.hav rfl ?_ | exact Out.refl _ _)), ⟨rfl, by rw [hbs]; rfl, trivial⟩, Imp.refl _, by omega, by omega⟩
    · obtain rfl : i = es.length := by omega
      have hfk : bst (es.map En.add) es.length = k := hk
      rw [hfk]
      (refine WC.seq ?_; intro K hK)
      refine WC.region rfl ?_
      refine WL.want rfl (WL1.give rfl (g_lt rfl (.mk rfl rfl) (.mk rfl rfl) (decide_eq_false (by omega))) ?_)
      refine WL.nil ?_
      (refine hK _ _ ?_; clear hK)
      (refine WC.seq ?_; intro K hK)
      refine WC.cond_false (.mk rfl rfl) ?_
      refine WC.exit ?_
      (clear hK; refine hK _ _ ?_; clear hK)
      refine WC.imp (Imp.cons (Imp.cons (ents_out hkm))) ?_
      (refine WC.seq ?_; intro K hK)
      refine WC.region rfl ?_
      refine WL.want rfl (WL1.give rfl (g_move rfl (.mk (v := cellPtr _ _) rfl rfl)) ?_)
      refine WL.want rfl (WL1.give rfl (g_nilCheck rfl (.mk rfl rfl) (fun _ _ => rfl)) ?_)
      refine WL.want rfl (WL1.give rfl (g_fieldAddr (off := 2) rfl (.mk rfl rfl) rfl (fun _ _ => rfl)) ?_)
      refine WL.want rfl (WL1.give rfl (g_load rfl (.mk rfl rfl) rfl (rd_pt (.tail _ (.tail _ (.head _))) rfl)) ?_)
      refine WL.want rfl (WL1.give rfl (g_move rfl (.mk (v := .int _ _) rfl rfl)) ?_)
      refine WL.want rfl (WL1.give rfl (g_sub rfl (.mk rfl rfl) (.mk rfl rfl) (IntWalk.i64_in _ (by omega))) ?_)
      refine WL.want rfl (WL1.give rfl (g_nilCheck rfl (.mk rfl rfl) (fun _ _ => rfl)) ?_)
      refine WL.want rfl (WL1.give rfl (g_fieldAddr (off := 2) rfl (.mk rfl rfl) rfl (fun _ _ => rfl)) ?_)
      refine WL.want rfl (WL1.store1 rfl rfl (.mk rfl rfl) (.mk (v := .int _ _) rfl rfl) rfl rfl (Nat.le_of_ble_eq_true rfl) (.tail (.tail (.head))) ?_)
      refine WL.nil ?_
      (refine hK _ _ ?_; clear hK)
      refine WC.imp (Imp.cons (Imp.cons (ents_back (e := (nth (es.map En.add) k).pay (sumW es es.length)) hkm))) ?_
      (refine WC.seq ?_; intro K hK)
      refine WC.region rfl ?_
      refine WL.want rfl (WL1.give rfl (g_move rfl (.mk (v := cellPtr _ _) rfl rfl)) ?_)
      refine WL.want rfl (WL1.give rfl (g_move rfl (.mk (v := cellPtr _ _) rfl rfl)) ?_)
      (refine WL.want rfl (WL1.callF rfl rfl rfl (.cons (.mk (v := cellPtr _ _) rfl rfl) (.cons (.mk (v := cellPtr _ _) rfl rfl) .nil)) (fun w hw => HS w hw) ?_); rintro _ _ ⟨rfl, rfl⟩)
      refine WL.want rfl (WL1.give rfl (g_extract rfl (.mk rfl rfl) rfl) ?_)
      refine WL.want rfl (WL1.give rfl (g_extract rfl (.mk rfl rfl) rfl) ?_)
      refine WL.want rfl (WL1.give rfl (g_extract rfl (.mk rfl rfl) rfl) ?_)
      refine WL.want rfl (WL1.give rfl (g_assign rfl (.mk (v := .int _ _) rfl rfl)) ?_)
      refine WL.want rfl (WL1.give rfl (g_assign rfl (.mk (v := .bool _) rfl rfl)) ?_)
      refine WL.want rfl (WL1.give rfl (g_assign rfl (.mk (v := .int _ _) rfl rfl)) ?_)
      refine WL.nil ?_
      (refine hK _ _ ?_; clear hK)
      refine WC.ret ?_
      exact fun w' hw' => ⟨_, _, rfl, hw', rfl, rfl⟩
end
end Go.Proofs.Ytbofagfilohhfaa
