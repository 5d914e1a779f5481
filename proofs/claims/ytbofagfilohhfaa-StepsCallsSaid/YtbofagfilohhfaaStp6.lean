/- Pick and Fair of the scheduler, walked. No condition. -/
import Derived.Test.YtbofagfilohhfaaStp5
namespace Go.Proofs.Ytbofagfilohhfaa
set_option maxRecDepth 20000
open Go.RowKit
attribute [local irreducible] Calls
/-- The entry with its weight added to its credit. -/
def En.add (e : En) : En := { e with cr := e.cr + e.wt }
/-- The first i entries with their weights added. -/
def addW (es : List En) (i : Nat) : List En := (es.take i).map En.add ++ es.drop i
theorem addW_zero (es : List En) : addW es 0 = es := by simp [addW]
theorem addW_all (es : List En) : addW es es.length = es.map En.add := by simp [addW]
theorem addW_len (es : List En) (i : Nat) : (addW es i).length = es.length := by simp [addW]; omega
theorem addW_at {es : List En} {i : Nat} (h : i < es.length) : nth (addW es i) i = nth es i := by
  rw [nth_eq (by rw [addW_len]; exact h), nth_eq h]
  unfold addW
  rw [List.getElem_append_right (by simp; omega)]
  simp [Nat.min_eq_left (Nat.le_of_lt h)]
theorem addW_set {es : List En} {i : Nat} (h : i < es.length) : (addW es i).set i (nth es i).add = addW es (i + 1) := by
  have hl : ((es.take i).map En.add).length = i := by simp; omega
  unfold addW
  rw [List.set_append_right _ _ (by omega), hl, Nat.sub_self, List.take_succ_eq_append_getElem h, List.map_append, List.append_assoc]
  congr 1
  rw [List.drop_eq_getElem_cons h, nth_eq h]
  rfl
theorem ptrs_addW (es : List En) : ptrs (es.map En.add) = ptrs es := by simp [ptrs, En.add]
theorem nth_add {es : List En} {i : Nat} (h : i < es.length) : nth (es.map En.add) i = (nth es i).add := by
  rw [nth_eq (by simpa using h), nth_eq h, List.getElem_map]
/-- The sum of the first i weights. -/
def sumW (es : List En) : Nat → Int
  | 0 => 0
  | i + 1 => sumW es i + (nth es i).wt
/-- The place of the greatest credit of the first i; the first of them. -/
def bst (es : List En) : Nat → Nat
  | 0 => 0
  | i + 1 => if (nth es (bst es i)).cr < (nth es i).cr then i else bst es i
theorem bst_lt (es : List En) : ∀ i, bst es i < i ∨ bst es i = 0
  | 0 => .inr rfl
  | i + 1 => by
    rw [bst]
    have := bst_lt es i
    split <;> omega
/-- Weights and credits in their bounds. -/
def Bnd (es : List En) : Prop := ∀ i, i < es.length → 1 ≤ (nth es i).wt ∧ (nth es i).wt ≤ 16 ∧ -1000000000 ≤ (nth es i).cr ∧ (nth es i).cr ≤ 1000000000
theorem sumW_bnd {es : List En} (h : Bnd es) : ∀ i, i ≤ es.length → (i : Int) ≤ sumW es i ∧ sumW es i ≤ 16 * i
  | 0, _ => ⟨by simp [sumW], by simp [sumW]⟩
  | i + 1, hi => by
    have h1 := sumW_bnd h i (by omega)
    have h2 := h i (by omega)
    rw [sumW]
    omega
section
variable {w0 w : World} {L : List Asrt} {S c k j : Nat} {A : Option Addr} {last l d x : Int} {es : List En}
theorem step_e (hm : es.length ≤ 64) (hk : k < es.length) (hx : idN es (nth es k).id = k) (hj : (nth es k).j = j) (hw : H w0 (schd S A c last es ++ pt j JT [iv l, iv d] :: L) w) :
    Calls Try.prog 24 #[bp S, bp (nth es k).p] w fun e w' => ∃ u L', e = .returned u ∧ H w0 L' w' ∧ u = .tuple #[iv (nth es k).id, .bool (decide (wr (l - 1) = 0)), iv 0] ∧ L' = schd S A c last (if wr (l - 1) = 0 then es.eraseIdx k else es) ++ pt j JT [iv (wr (l - 1)), iv (wr (d + 1))] :: L := by
  by_cases hl : wr (l - 1) = 0
  · have := step_end hm hk hx hj hl hw
    rw [decide_eq_true hl, if_pos hl]; exact this
  · have := step_go hk hj hl hw
    rw [decide_eq_false hl, if_neg hl]; exact this
set_option maxRecDepth 20000 in
theorem pick_no (hl : es.length = 0) (hw : H w0 (schd S A c last es ++ L) w) :
    Calls Try.prog 13 #[bp S, iv x] w fun e w' => e = .returned (.tuple #[iv 0, .bool false, iv 9]) ∧ Below w.heap.size w w' := by
  have hS0 : w.cell? ⟨S, 0, none⟩ = some (.slice A es.length c) := cell_pt hw (.head _) rfl
  refine calls_wc (args := [bp S, iv x]) [4, 5, 6] ([]) Try.func13 rfl Try.ntmps13 rfl rfl rfl rfl (H.refl w) ?_
  (refine WC.seq ?_; intro K hK)
  refine WC.region rfl ?_
  refine WL.want rfl (WL1.give rfl (g_assign rfl (.mk (v := .int _ _) rfl rfl)) ?_)
  refine WL.want rfl (WL1.give rfl (g_assign rfl (.mk (v := .bool _) rfl rfl)) ?_)
  refine WL.want rfl (WL1.give rfl (g_assign rfl (.mk (v := .int _ _) rfl rfl)) ?_)
  refine WL.nil ?_
  (refine hK _ _ ?_; clear hK)
  (refine WC.seq ?_; intro K hK)
  (refine WC.seq ?_; intro K hK)
  refine WC.region rfl ?_
  refine WL.want rfl (WL1.give rfl (g_move rfl (.mk (v := cellPtr _ _) rfl rfl)) ?_)
  refine WL.want rfl (WL1.give rfl (g_eqPN rfl (.mk rfl rfl) (.mk rfl rfl) rfl (fun _ _ => rfl)) ?_)
  refine WL.want rfl (WL1.give rfl (g_move rfl (.mk (v := .bool _) rfl rfl)) ?_)
  refine WL.wantG rfl rfl rfl rfl (WL1.give rfl (g_move rfl (.mk (v := cellPtr _ _) rfl rfl)) ?_)
  refine WL.wantG rfl rfl rfl rfl (WL1.give rfl (g_nilCheck rfl (.mk rfl rfl) (fun _ _ => rfl)) ?_)
  refine WL.wantG rfl rfl rfl rfl (WL1.give rfl (g_fieldAddr (off := 0) rfl (.mk rfl rfl) rfl (fun _ _ => rfl)) ?_)
  refine WL.wantG rfl rfl rfl rfl (WL1.give rfl (g_load rfl (.mk rfl rfl) rfl (rd_wb hS0)) ?_)
  refine WL.wantG rfl rfl rfl rfl (WL1.give rfl (g_len rfl (.mk rfl rfl) rfl) ?_)
  refine WL.wantG rfl rfl rfl rfl (WL1.give rfl (g_eq rfl (.mk rfl rfl) (.mk rfl rfl) (decide_eq_true (by omega))) ?_)
  refine WL.want rfl (WL1.give rfl (g_pickF rfl (.mk rfl rfl) (.mk (v := .bool _) rfl rfl)) ?_)
  refine WL.nil ?_
  (refine hK _ _ ?_; clear hK)
  refine WC.cond_true (.mk rfl rfl) ?_
  (refine WC.seq ?_; intro K hK)
  refine WC.region rfl ?_
  refine WL.want rfl (WL1.give rfl (g_assign rfl (.mk (v := .int _ _) rfl rfl)) ?_)
  refine WL.want rfl (WL1.give rfl (g_assign rfl (.mk (v := .bool _) rfl rfl)) ?_)
  refine WL.want rfl (WL1.give rfl (g_assign rfl (.mk (v := .int _ _) rfl rfl)) ?_)
  refine WL.nil ?_
  (refine hK _ _ ?_; clear hK)
  refine WC.ret ?_
  exact fun w' hw' => ⟨rfl, hw'.1⟩
set_option maxRecDepth 20000 in
theorem pick_arg (hl : 1 ≤ es.length) (hx : x < 0) (hw : H w0 (schd S A c last es ++ L) w) :
    Calls Try.prog 13 #[bp S, iv x] w fun e w' => e = .returned (.tuple #[iv 0, .bool false, iv 1]) ∧ Below w.heap.size w w' := by
  have hS0 : w.cell? ⟨S, 0, none⟩ = some (.slice A es.length c) := cell_pt hw (.head _) rfl
  refine calls_wc (args := [bp S, iv x]) [4, 5, 6] ([]) Try.func13 rfl Try.ntmps13 rfl rfl rfl rfl (H.refl w) ?_
  (refine WC.seq ?_; intro K hK)
  refine WC.region rfl ?_
  refine WL.want rfl (WL1.give rfl (g_assign rfl (.mk (v := .int _ _) rfl rfl)) ?_)
  refine WL.want rfl (WL1.give rfl (g_assign rfl (.mk (v := .bool _) rfl rfl)) ?_)
  refine WL.want rfl (WL1.give rfl (g_assign rfl (.mk (v := .int _ _) rfl rfl)) ?_)
  refine WL.nil ?_
  (refine hK _ _ ?_; clear hK)
  (refine WC.seq ?_; intro K hK)
  (refine WC.seq ?_; intro K hK)
  refine WC.region rfl ?_
  refine WL.want rfl (WL1.give rfl (g_move rfl (.mk (v := cellPtr _ _) rfl rfl)) ?_)
  refine WL.want rfl (WL1.give rfl (g_eqPN rfl (.mk rfl rfl) (.mk rfl rfl) rfl (fun _ _ => rfl)) ?_)
  refine WL.want rfl (WL1.give rfl (g_move rfl (.mk (v := .bool _) rfl rfl)) ?_)
  refine WL.wantG rfl rfl rfl rfl (WL1.give rfl (g_move rfl (.mk (v := cellPtr _ _) rfl rfl)) ?_)
  refine WL.wantG rfl rfl rfl rfl (WL1.give rfl (g_nilCheck rfl (.mk rfl rfl) (fun _ _ => rfl)) ?_)
  refine WL.wantG rfl rfl rfl rfl (WL1.give rfl (g_fieldAddr (off := 0) rfl (.mk rfl rfl) rfl (fun _ _ => rfl)) ?_)
  refine WL.wantG rfl rfl rfl rfl (WL1.give rfl (g_load rfl (.mk rfl rfl) rfl (rd_wb hS0)) ?_)
  refine WL.wantG rfl rfl rfl rfl (WL1.give rfl (g_len rfl (.mk rfl rfl) rfl) ?_)
  refine WL.wantG rfl rfl rfl rfl (WL1.give rfl (g_eq rfl (.mk rfl rfl) (.mk rfl rfl) (decide_eq_false (by omega))) ?_)
  refine WL.want rfl (WL1.give rfl (g_pickF rfl (.mk rfl rfl) (.mk (v := .bool _) rfl rfl)) ?_)
  refine WL.nil ?_
  (refine hK _ _ ?_; clear hK)
  refine WC.cond_false (.mk rfl rfl) ?_
  refine WC.skip ?_
  (refine hK _ _ ?_; clear hK)
  (refine WC.seq ?_; intro K hK)
  (refine WC.seq ?_; intro K hK)
  refine WC.region rfl ?_
  refine WL.want rfl (WL1.give rfl (g_move rfl (.mk (v := .int _ _) rfl rfl)) ?_)
  refine WL.want rfl (WL1.give rfl (g_lt rfl (.mk rfl rfl) (.mk rfl rfl) (decide_eq_true (by omega))) ?_)
  refine WL.nil ?_
  (refine hK _ _ ?_; clear hK)
  refine WC.cond_true (.mk rfl rfl) ?_
  (refine WC.seq ?_; intro K hK)
  refine WC.region rfl ?_
  refine WL.want rfl (WL1.give rfl (g_assign rfl (.mk (v := .int _ _) rfl rfl)) ?_)
  refine WL.want rfl (WL1.give rfl (g_assign rfl (.mk (v := .bool _) rfl rfl)) ?_)
  refine WL.want rfl (WL1.give rfl (g_assign rfl (.mk (v := .int _ _) rfl rfl)) ?_)
  refine WL.nil ?_
  (refine hK _ _ ?_; clear hK)
  refine WC.ret ?_
  exact fun w' hw' => ⟨rfl, hw'.1⟩
set_option maxRecDepth 20000 in
theorem pick_e (hm : es.length ≤ 64) (hk : k < es.length) (hn : 0 ≤ x) (hq : x.tmod es.length = (k : Int)) (hx : idN es (nth es k).id = k) (hj : (nth es k).j = j) (hw : H w0 (schd S A c last es ++ pt j JT [iv l, iv d] :: L) w) :
    Calls Try.prog 13 #[bp S, iv x] w fun e w' => ∃ u L', e = .returned u ∧ H w0 L' w' ∧ u = .tuple #[iv (nth es k).id, .bool (decide (wr (l - 1) = 0)), iv 0] ∧ L' = schd S A c last (if wr (l - 1) = 0 then es.eraseIdx k else es) ++ pt j JT [iv (wr (l - 1)), iv (wr (d + 1))] :: L := by
  refine calls_wc (args := [bp S, iv x]) [4, 5, 6] (schd S A c last es ++ pt j JT [iv l, iv d] :: L) Try.func13 rfl Try.ntmps13 rfl rfl rfl rfl hw ?_
  (refine WC.seq ?_; intro K hK)
  refine WC.region rfl ?_
  refine WL.want rfl (WL1.give rfl (g_assign rfl (.mk (v := .int _ _) rfl rfl)) ?_)
  refine WL.want rfl (WL1.give rfl (g_assign rfl (.mk (v := .bool _) rfl rfl)) ?_)
  refine WL.want rfl (WL1.give rfl (g_assign rfl (.mk (v := .int _ _) rfl rfl)) ?_)
  refine WL.nil ?_
  (refine hK _ _ ?_; clear hK)
  (refine WC.seq ?_; intro K hK)
  (refine WC.seq ?_; intro K hK)
  refine WC.region rfl ?_
  refine WL.want rfl (WL1.give rfl (g_move rfl (.mk (v := cellPtr _ _) rfl rfl)) ?_)
  refine WL.want rfl (WL1.give rfl (g_eqPN rfl (.mk rfl rfl) (.mk rfl rfl) rfl (fun _ _ => rfl)) ?_)
  refine WL.want rfl (WL1.give rfl (g_move rfl (.mk (v := .bool _) rfl rfl)) ?_)
  refine WL.wantG rfl rfl rfl rfl (WL1.give rfl (g_move rfl (.mk (v := cellPtr _ _) rfl rfl)) ?_)
  refine WL.wantG rfl rfl rfl rfl (WL1.give rfl (g_nilCheck rfl (.mk rfl rfl) (fun _ _ => rfl)) ?_)
  refine WL.wantG rfl rfl rfl rfl (WL1.give rfl (g_fieldAddr (off := 0) rfl (.mk rfl rfl) rfl (fun _ _ => rfl)) ?_)
  refine WL.wantG rfl rfl rfl rfl (WL1.give rfl (g_load rfl (.mk rfl rfl) rfl (rd_pt (.head _) rfl)) ?_)
  refine WL.wantG rfl rfl rfl rfl (WL1.give rfl (g_len rfl (.mk rfl rfl) rfl) ?_)
  refine WL.wantG rfl rfl rfl rfl (WL1.give rfl (g_eq rfl (.mk rfl rfl) (.mk rfl rfl) (decide_eq_false (by omega))) ?_)
  refine WL.want rfl (WL1.give rfl (g_pickF rfl (.mk rfl rfl) (.mk (v := .bool _) rfl rfl)) ?_)
  refine WL.nil ?_
  (refine hK _ _ ?_; clear hK)
  refine WC.cond_false (.mk rfl rfl) ?_
  refine WC.skip ?_
  (refine hK _ _ ?_; clear hK)
  (refine WC.seq ?_; intro K hK)
  (refine WC.seq ?_; intro K hK)
  refine WC.region rfl ?_
  refine WL.want rfl (WL1.give rfl (g_move rfl (.mk (v := .int _ _) rfl rfl)) ?_)
  refine WL.want rfl (WL1.give rfl (g_lt rfl (.mk rfl rfl) (.mk rfl rfl) (decide_eq_false (by omega))) ?_)
  refine WL.nil ?_
  (refine hK _ _ ?_; clear hK)
  refine WC.cond_false (.mk rfl rfl) ?_
  refine WC.skip ?_
  (refine hK _ _ ?_; clear hK)
  (refine WC.seq ?_; intro K hK)
  refine WC.split2 14 rfl (by kernel_rfl) (by decide +kernel) ?_
  refine WQ.want rfl (WQ1.give rfl (g_move rfl (.mk (v := cellPtr _ _) rfl rfl)) ?_)
  refine WQ.want rfl (WQ1.give rfl (g_move rfl (.mk (v := cellPtr _ _) rfl rfl)) ?_)
  refine WQ.want rfl (WQ1.give rfl (g_nilCheck rfl (.mk rfl rfl) (fun _ _ => rfl)) ?_)
  refine WQ.want rfl (WQ1.give rfl (g_fieldAddr (off := 0) rfl (.mk rfl rfl) rfl (fun _ _ => rfl)) ?_)
  refine WQ.want rfl (WQ1.give rfl (g_load rfl (.mk rfl rfl) rfl (rd_pt (.head _) rfl)) ?_)
  refine WQ.want rfl (WQ1.give rfl (g_move rfl (.mk (v := .int _ _) rfl rfl)) ?_)
  refine WQ.want rfl (WQ1.give rfl (g_move rfl (.mk (v := cellPtr _ _) rfl rfl)) ?_)
  refine WQ.want rfl (WQ1.give rfl (g_nilCheck rfl (.mk rfl rfl) (fun _ _ => rfl)) ?_)
  refine WQ.want rfl (WQ1.give rfl (g_fieldAddr (off := 0) rfl (.mk rfl rfl) rfl (fun _ _ => rfl)) ?_)
  refine WQ.want rfl (WQ1.give rfl (g_load rfl (.mk rfl rfl) rfl (rd_pt (.head _) rfl)) ?_)
  refine WQ.want rfl (WQ1.give rfl (g_len rfl (.mk rfl rfl) rfl) ?_)
  refine WQ.want rfl (WQ1.give rfl (g_rem rfl (.mk rfl rfl) (.mk rfl rfl) (by omega) hq) ?_)
  refine WQ.want rfl (WQ1.give rfl (g_indexAddr (sz := 1) rfl (.mk rfl rfl) (.mk rfl rfl) rfl rfl rfl (by omega) (fun w hw => vec_some hw (.tail _ (.head _)) (by omega))) ?_)
  refine WQ.want rfl (WQ1.give rfl (g_load rfl (.mk rfl rfl) rfl (rd_vec (.tail _ (.head _)) (get1 (by omega)))) ?_)
  refine WQ.nil ?_
  refine WY.one 14 (by decide +kernel) rfl rfl ?_
  (refine WL1.callF rfl rfl rfl (.cons (.mk (v := cellPtr _ _) rfl rfl) (.cons (.mk (v := cellPtr _ _) rfl rfl) .nil)) (fun w hw => step_e hm hk hx hj hw) ?_; rintro _ _ ⟨rfl, rfl⟩)
  refine WL.nil ?_
  refine WY.take 15 rfl (by decide +kernel) (by decide +kernel) (by decide +kernel) rfl rfl (g_extract rfl (.mk rfl rfl) rfl) ?_
  refine WY.take 16 rfl (by decide +kernel) (by decide +kernel) (by decide +kernel) rfl rfl (g_extract rfl (.mk rfl rfl) rfl) ?_
  refine WY.take 17 rfl (by decide +kernel) (by decide +kernel) (by decide +kernel) rfl rfl (g_extract rfl (.mk rfl rfl) rfl) ?_
  refine WY.take 18 rfl (by decide +kernel) (by decide +kernel) (by decide +kernel) rfl rfl (g_assign rfl (.mk (v := .int _ _) rfl rfl)) ?_
  refine WY.take 19 rfl (by decide +kernel) (by decide +kernel) (by decide +kernel) rfl rfl (g_assign rfl (.mk (v := .bool _) rfl rfl)) ?_
  refine WY.take 20 rfl (by decide +kernel) (by decide +kernel) (by decide +kernel) rfl rfl (g_assign rfl (.mk (v := .int _ _) rfl rfl)) ?_
  refine WY.done (by decide +kernel) ?_
  (refine hK _ _ ?_; clear hK)
  refine WC.ret ?_
  exact fun w' hw' => ⟨_, _, rfl, hw', rfl, rfl⟩
end
end Go.Proofs.Ytbofagfilohhfaa
