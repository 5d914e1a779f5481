/- The specification's scheduler, walked: drop, step, IDs, Credit. No condition. -/
import Derived.Test.YtbofagfilohhfaaStp11
namespace Go.Proofs.Ytbofagfilohhfaa
set_option maxRecDepth 20000
open Go.RowKit
attribute [local irreducible] Calls
/-- A machine of the specification. -/
structure Rj where
  id : Int
  wt : Int
  cr : Int
  l : Int
instance : Inhabited Rj := ⟨⟨0, 0, 0, 0⟩⟩
def Rj.cells (r : Rj) : List Value := [iv r.id, iv r.wt, iv r.cr, iv r.l]
def rcs (l : List Rj) : List Value := l.flatMap Rj.cells
abbrev RT : TypeId := 47
abbrev RJT : TypeId := 68
abbrev AT : TypeId := 51
theorem rcs_len (l : List Rj) : (rcs l).length = l.length * 4 := by
  induction l with
  | nil => rfl
  | cons a l ih => unfold rcs at *; rw [List.flatMap_cons, List.length_append, ih]; show 4 + _ = _; rw [List.length_cons]; omega
theorem rcs_take : ∀ (l : List Rj) (k : Nat), (rcs l).take (k * 4) = rcs (l.take k)
  | l, 0 => by simp [rcs]
  | [], k + 1 => by simp [rcs]
  | a :: l, k + 1 => by
    have := rcs_take l k
    unfold rcs at *
    rw [List.flatMap_cons, List.take_succ_cons, List.flatMap_cons, ← this, show (k + 1) * 4 = k * 4 + 4 from by omega]
    rw [List.take_append]
    have e : a.cells.length = 4 := rfl
    rw [List.take_of_length_le (by omega), e]
    rfl
theorem rcs_drop : ∀ (l : List Rj) (k : Nat), (rcs l).drop (k * 4) = rcs (l.drop k)
  | l, 0 => by simp
  | [], k + 1 => by simp [rcs]
  | a :: l, k + 1 => by
    have := rcs_drop l k
    unfold rcs at *
    rw [List.flatMap_cons, List.drop_succ_cons, ← this, show (k + 1) * 4 = k * 4 + 4 from by omega, List.drop_append]
    have e : a.cells.length = 4 := rfl
    rw [List.drop_of_length_le (by omega), e]
    rfl
theorem rcs_app (l m : List Rj) : rcs (l ++ m) = rcs l ++ rcs m := by simp [rcs]
theorem rcs_setc : ∀ (l : List Rj) (k : Nat) (j : Nat) (v : Value) (r : Rj), k < l.length → j < 4 → (nth l k).cells.set j v = r.cells → (rcs l).set (k * 4 + j) v = rcs (l.set k r)
  | [], k, _, _, _, h, _, _ => absurd h (by simp)
  | a :: l, 0, j, v, r, _, hj, he => by
    unfold rcs
    rw [List.flatMap_cons, List.set_cons_zero, List.flatMap_cons, Nat.zero_mul, Nat.zero_add, List.set_append_left _ _ (show j < a.cells.length from hj)]
    exact congrArg (· ++ _) he
  | a :: l, k + 1, j, v, r, h, hj, he => by
    have ih := rcs_setc l k j v r (by simpa using h) hj he
    unfold rcs at *
    rw [List.flatMap_cons, List.set_cons_succ, List.flatMap_cons, ← ih, List.set_append_right _ _ (show a.cells.length ≤ (k + 1) * 4 + j from by show 4 ≤ _; omega)]
    congr 2
    show (k + 1) * 4 + j - 4 = _
    omega
theorem rcs_get {l : List Rj} {k j : Nat} (hk : k < l.length) (hj : j < 4) {v : Value} (hv : (nth l k).cells[j]? = some v) : (rcs l)[k * 4 + j]? = some v := (flat_get (enc := Rj.cells) (sz := 4) (fun _ _ => rfl) hk hj).trans hv
theorem elJ : Elem Try.prog 45 RJT (.agg #[iv 0, iv 0, iv 0, iv 0]) 4 32 := ⟨by kernel_rfl, by kernel_rfl, rfl, by decide⟩
theorem rcs_one (l : List Rj) : ∀ u ∈ rcs l, u.oneCell' = true := fun u hu => by
  obtain ⟨r, _, hr⟩ := List.mem_flatMap.1 hu
  simp only [Rj.cells, List.mem_cons, List.not_mem_nil, or_false] at hr
  rcases hr with rfl | rfl | rfl | rfl <;> rfl
/-- The specification's scheduler. -/
abbrev rschd (T : Nat) (D : Option Addr) (c : Nat) (ad : Int) (rj : List Rj) : List Asrt := [pt T RT [.slice D rj.length c, iv ad], vec D rj.length c RJT 4 (rcs rj)]
section
variable {w0 w : World} {L : List Asrt} {T c k : Nat} {D : Option Addr} {ad x : Int} {rj : List Rj}
theorem vec_atL (hw : H w0 (rschd T D c ad rj ++ L) w) (h0 : 1 ≤ rj.length) : ∃ g, D = some ⟨g, 0, none⟩ := by
  obtain ⟨g, cur, h, _⟩ := vec_pt (hw.perm (.swap _ _ _)) (show 0 < rj.length by omega)
  exact ⟨g, h⟩
theorem pre_sl {g m : Nat} {L : List Asrt} {w : World} (hm : m = rj.length) (hw : H w0 L w) (hM : vec (some ⟨g, 0, none⟩) m c RJT 4 (rcs rj) ∈ L) (hk : k ≤ m) : Sl w 4 (.slice (some ⟨g, 0, none⟩) k c) k (rcs (rj.take k)) := by
  have := (Sl.of_vec hw hM).sub (l := 0) (h := k) (Nat.zero_le _) hk
  rw [subA_zero, Nat.sub_zero, Nat.sub_zero, Nat.zero_mul, List.drop_zero, rcs_take] at this
  exact this
theorem suf_sl {g m : Nat} {L : List Asrt} {w : World} (hm : m = rj.length) (hw : H w0 L w) (hM : vec (some ⟨g, 0, none⟩) m c RJT 4 (rcs rj) ∈ L) (hk : k ≤ m) : Sl w 4 (.slice (subA (some ⟨g, 0, none⟩) c k 4) (m - k) (c - k)) (m - k) (rcs (rj.drop k)) := by
  have := (Sl.of_vec hw hM).sub (l := k) (h := m) hk (Nat.le_refl _)
  rw [rcs_drop, List.take_of_length_le (by rw [rcs_len, List.length_drop]; omega)] at this
  exact this
set_option maxRecDepth 20000 in
theorem rdrop_e (hm : rj.length ≤ 1000) (hk : k < rj.length) (hw : H w0 (rschd T D c ad rj ++ L) w) :
    Calls Try.prog 25 #[bp T, iv k] w fun e w' => ∃ u L', e = .returned u ∧ H w0 L' w' ∧ ∃ D' c', u = .tuple #[] ∧ L' = rschd T D' c' ad (rj.eraseIdx k) ++ L := by
  obtain ⟨g, rfl⟩ := vec_atL hw (by omega)
  have hcap := vec_cap hw (.tail _ (.head _))
  refine calls_wc (args := [bp T, iv k]) [] (rschd T (some ⟨g, 0, none⟩) c ad rj ++ L) Try.func25 rfl Try.ntmps25 rfl rfl rfl rfl hw ?_
  refine WC.until (rschd T (some ⟨g, 0, none⟩) c ad rj) [19] rfl (by kernel_rfl) ?_
  refine WB.takeP 0 rfl (by decide +kernel) (by decide +kernel) (by decide +kernel) (by decide +kernel) rfl rfl (.inr (Imp.sub (by first | ((repeat (first | exact List.nil_sublist _ | exact List.Sublist.refl _ | apply List.Sublist.cons_cons | apply List.Sublist.cons)); done) | fail))) (g_move rfl (.mk (v := cellPtr _ _) rfl rfl)) ?_
  refine WB.takeP 2 rfl (by decide +kernel) (by decide +kernel) (by decide +kernel) (by decide +kernel) rfl rfl (.inr (Imp.sub (by first | ((repeat (first | exact List.nil_sublist _ | exact List.Sublist.refl _ | apply List.Sublist.cons_cons | apply List.Sublist.cons)); done) | fail))) (g_move rfl (.mk (v := cellPtr _ _) rfl rfl)) ?_
  refine WB.takeP 3 rfl (by decide +kernel) (by decide +kernel) (by decide +kernel) (by decide +kernel) rfl rfl (.inr (Imp.sub (by first | ((repeat (first | exact List.nil_sublist _ | exact List.Sublist.refl _ | apply List.Sublist.cons_cons | apply List.Sublist.cons)); done) | fail))) (g_nilCheck rfl (.mk rfl rfl) (fun _ _ => rfl)) ?_
  refine WB.takeP 4 rfl (by decide +kernel) (by decide +kernel) (by decide +kernel) (by decide +kernel) rfl rfl (.inr (Imp.sub (by first | ((repeat (first | exact List.nil_sublist _ | exact List.Sublist.refl _ | apply List.Sublist.cons_cons | apply List.Sublist.cons)); done) | fail))) (g_fieldAddr (off := 0) rfl (.mk rfl rfl) rfl (fun _ _ => rfl)) ?_
  refine WB.take 5 rfl (by decide +kernel) (by decide +kernel) (by decide +kernel) (by decide +kernel) rfl rfl (Imp.sub (by first | ((repeat (first | exact List.nil_sublist _ | exact List.Sublist.refl _ | apply List.Sublist.cons_cons | apply List.Sublist.cons)); done) | fail)) (g_load rfl (.mk rfl rfl) rfl (rd_pt (.head _) rfl)) ?_
  refine WB.takeP 6 rfl (by decide +kernel) (by decide +kernel) (by decide +kernel) (by decide +kernel) rfl rfl (.inr (Imp.sub (by first | ((repeat (first | exact List.nil_sublist _ | exact List.Sublist.refl _ | apply List.Sublist.cons_cons | apply List.Sublist.cons)); done) | fail))) (g_move rfl (.mk (v := .int _ _) rfl rfl)) ?_
  refine WB.takeP 7 rfl (by decide +kernel) (by decide +kernel) (by decide +kernel) (by decide +kernel) rfl rfl (.inr (Imp.sub (by first | ((repeat (first | exact List.nil_sublist _ | exact List.Sublist.refl _ | apply List.Sublist.cons_cons | apply List.Sublist.cons)); done) | fail))) (g_slice0 (sz := 4) rfl (.mk rfl rfl) rfl rfl (.mk rfl rfl) rfl (by omega)) ?_
  refine WB.takeP 9 rfl (by decide +kernel) (by decide +kernel) (by decide +kernel) (by decide +kernel) rfl rfl (.inr (Imp.sub (by first | ((repeat (first | exact List.nil_sublist _ | exact List.Sublist.refl _ | apply List.Sublist.cons_cons | apply List.Sublist.cons)); done) | fail))) (g_move rfl (.mk (v := cellPtr _ _) rfl rfl)) ?_
  refine WB.takeP 10 rfl (by decide +kernel) (by decide +kernel) (by decide +kernel) (by decide +kernel) rfl rfl (.inr (Imp.sub (by first | ((repeat (first | exact List.nil_sublist _ | exact List.Sublist.refl _ | apply List.Sublist.cons_cons | apply List.Sublist.cons)); done) | fail))) (g_nilCheck rfl (.mk rfl rfl) (fun _ _ => rfl)) ?_
  refine WB.takeP 11 rfl (by decide +kernel) (by decide +kernel) (by decide +kernel) (by decide +kernel) rfl rfl (.inr (Imp.sub (by first | ((repeat (first | exact List.nil_sublist _ | exact List.Sublist.refl _ | apply List.Sublist.cons_cons | apply List.Sublist.cons)); done) | fail))) (g_fieldAddr (off := 0) rfl (.mk rfl rfl) rfl (fun _ _ => rfl)) ?_
  refine WB.take 12 rfl (by decide +kernel) (by decide +kernel) (by decide +kernel) (by decide +kernel) rfl rfl (Imp.sub (by first | ((repeat (first | exact List.nil_sublist _ | exact List.Sublist.refl _ | apply List.Sublist.cons_cons | apply List.Sublist.cons)); done) | fail)) (g_load rfl (.mk rfl rfl) rfl (rd_pt (.head _) rfl)) ?_
  refine WB.takeP 13 rfl (by decide +kernel) (by decide +kernel) (by decide +kernel) (by decide +kernel) rfl rfl (.inr (Imp.sub (by first | ((repeat (first | exact List.nil_sublist _ | exact List.Sublist.refl _ | apply List.Sublist.cons_cons | apply List.Sublist.cons)); done) | fail))) (g_move rfl (.mk (v := .int _ _) rfl rfl)) ?_
  refine WB.takeP 14 rfl (by decide +kernel) (by decide +kernel) (by decide +kernel) (by decide +kernel) rfl rfl (.inr (Imp.sub (by first | ((repeat (first | exact List.nil_sublist _ | exact List.Sublist.refl _ | apply List.Sublist.cons_cons | apply List.Sublist.cons)); done) | fail))) (g_add rfl (.mk rfl rfl) (.mk rfl rfl) (IntWalk.i64_in _ (by omega))) ?_
  refine WB.takeP 15 rfl (by decide +kernel) (by decide +kernel) (by decide +kernel) (by decide +kernel) rfl rfl (.inr (Imp.sub (by first | ((repeat (first | exact List.nil_sublist _ | exact List.Sublist.refl _ | apply List.Sublist.cons_cons | apply List.Sublist.cons)); done) | fail))) (g_slice (sz := 4) (kh := .i64) (q := 0) rfl (.mk rfl rfl) rfl rfl ⟨(.mk rfl rfl), (show _ = ((k + 1 : Nat) : Int) by omega)⟩ rfl (by omega) (by omega)) ?_
  refine WB.one 1 (by decide +kernel) rfl rfl ?_
  refine WL1.lit (cs := []) elJ rfl rfl rfl .nil rfl (by first | (simp [Value.cells]; done) | fail) rfl rfl (fun b5 => ?_)
  refine WL.nil ?_
  refine ⟨.inr (Imp.sub (by first | ((repeat (first | exact List.nil_sublist _ | exact List.Sublist.refl _ | apply List.Sublist.cons_cons | apply List.Sublist.cons)); done) | fail)), ?_⟩
  refine WB.one 8 (by decide +kernel) rfl rfl ?_
  refine WL1.append elJ rfl rfl (.mk rfl rfl) (.mk rfl rfl) (.head) (fun w hw => pre_sl (k := k) rfl hw (by first | ((repeat (first | exact .head _ | apply List.Mem.tail)); done) | fail) (by omega)) (rcs_one _) (by unfold maxLen; omega) (by omega) (fun A12 c12 => ?_)
  refine WL.nil ?_
  refine ⟨.inr (Imp.sub (by first | ((repeat (first | exact List.nil_sublist _ | exact List.Sublist.refl _ | apply List.Sublist.cons_cons | apply List.Sublist.cons)); done) | fail)), ?_⟩
  refine WB.one 16 (by decide +kernel) rfl rfl ?_
  refine WL1.append elJ rfl rfl (.mk rfl rfl) (.mk rfl rfl) (.head) (fun w hw => suf_sl (k := k + 1) rfl hw (by first | ((repeat (first | exact .head _ | apply List.Mem.tail)); done) | fail) (by omega)) (rcs_one _) (by unfold maxLen; omega) (by omega) (fun A20 c20 => ?_)
  refine WL.nil ?_
  refine ⟨.inr (Imp.sub (by first | ((repeat (first | exact List.nil_sublist _ | exact List.Sublist.refl _ | apply List.Sublist.cons_cons | apply List.Sublist.cons)); done) | fail)), ?_⟩
  refine WB.takeP 17 rfl (by decide +kernel) (by decide +kernel) (by decide +kernel) (by decide +kernel) rfl rfl (.inr (Imp.sub (by first | ((repeat (first | exact List.nil_sublist _ | exact List.Sublist.refl _ | apply List.Sublist.cons_cons | apply List.Sublist.cons)); done) | fail))) (g_nilCheck rfl (.mk rfl rfl) (fun _ _ => rfl)) ?_
  refine WB.takeP 18 rfl (by decide +kernel) (by decide +kernel) (by decide +kernel) (by decide +kernel) rfl rfl (.inr (Imp.sub (by first | ((repeat (first | exact List.nil_sublist _ | exact List.Sublist.refl _ | apply List.Sublist.cons_cons | apply List.Sublist.cons)); done) | fail))) (g_fieldAddr (off := 0) rfl (.mk rfl rfl) rfl (fun _ _ => rfl)) ?_
  refine WB.one 19 (by decide +kernel) rfl rfl ?_
  refine WL1.store1 rfl rfl (.mk rfl rfl) (.mk (v := .slice _ _ _) rfl rfl) rfl rfl (Nat.le_of_ble_eq_true rfl) (.tail (.head)) ?_
  refine WL.nil ?_
  refine ⟨.inl (by decide +kernel), ?_⟩
  refine WB.done (by decide +kernel) ?_
  intro w' hw'
  refine ⟨_, _, rfl, ?_, A20, c20, rfl, rfl⟩
  have hl : (rj.eraseIdx k).length = 0 + k + (rj.length - (k + 1)) := by rw [List.length_eraseIdx_of_lt hk]; omega
  have hc : rcs (rj.eraseIdx k) = [] ++ rcs (rj.take k) ++ rcs (rj.drop (k + 1)) := by rw [List.eraseIdx_eq_take_drop_succ, rcs_app]; rfl
  show H w0 (pt T RT [.slice A20 (rj.eraseIdx k).length c20, iv ad] :: vec A20 (rj.eraseIdx k).length c20 RJT 4 (rcs (rj.eraseIdx k)) :: L) w'
  rw [hl, hc]
  exact (Imp.pick (.tail .head) (Imp.pick .head (Imp.sub (.cons _ (.refl _))))).h hw'
def Rj.stp (r : Rj) : Rj := ⟨r.id, r.wt, r.cr, wr (r.l - 1)⟩
/-- The answer of a step. -/
def stA (rj : List Rj) (k : Nat) : Value := .agg #[iv (nth rj k).id, .bool (decide (wr ((nth rj k).l - 1) = 0)), iv 0]
/-- The machines after a step. -/
def stR (rj : List Rj) (k : Nat) : List Rj := if wr ((nth rj k).l - 1) = 0 then (rj.set k (nth rj k).stp).eraseIdx k else rj.set k (nth rj k).stp
set_option maxRecDepth 20000 in
set_option maxHeartbeats 1000000 in
theorem rstep_e (hm : rj.length ≤ 1000) (hk : k < rj.length) (hw : H w0 (rschd T D c ad rj ++ L) w) :
    Calls Try.prog 26 #[bp T, iv k] w fun e w' => ∃ u L', e = .returned u ∧ H w0 L' w' ∧ ∃ D' c', u = stA rj k ∧ L' = rschd T D' c' ad (stR rj k) ++ L := by
  obtain ⟨g, rfl⟩ := vec_atL hw (by omega)
  have hcap := vec_cap hw (.tail _ (.head _))
  have hg3 := rcs_get hk (show 3 < 4 by omega) (v := iv (nth rj k).l) rfl
  have hset := rcs_setc rj k 3 (iv (wr ((nth rj k).l - 1))) (nth rj k).stp hk (by omega) rfl
  have hrl := rcs_len rj
  generalize hr1 : rj.set k (nth rj k).stp = rj1 at hset
  have hl1 : rj1.length = rj.length := by rw [← hr1, List.length_set]
  have hn1 : nth rj1 k = (nth rj k).stp := by rw [← hr1, nth_eq (by rw [List.length_set]; exact hk), List.getElem_set_self]
  have hg0 := rcs_get (l := rj1) (k := k) (by omega) (show 0 < 4 by omega) (v := iv (nth rj k).id) (by rw [hn1]; rfl)
  have hg1 := rcs_get (l := rj1) (k := k) (by omega) (show 3 < 4 by omega) (v := iv (wr ((nth rj k).l - 1))) (by rw [hn1]; rfl)
  have HD : ∀ (L1 : List Asrt) w', H w0 (L1 ++ pt T RT [.slice (some ⟨g, 0, none⟩) rj.length c, iv ad] :: vec (some ⟨g, 0, none⟩) rj.length c RJT 4 (rcs rj1) :: L) w' → Calls Try.prog 25 #[bp T, iv k] w' fun e w'' => ∃ u L', e = .returned u ∧ H w0 L' w'' ∧ ∃ D' c', u = .tuple #[] ∧ L' = rschd T D' c' ad (rj1.eraseIdx k) ++ (L1 ++ L) := fun L1 w' hw' => by
    have h := rdrop_e (rj := rj1) (T := T) (D := some ⟨g, 0, none⟩) (c := c) (ad := ad) (L := L1 ++ L) (w0 := w0) (w := w') (k := k) (by omega) (by omega)
    exact h (by
      show H w0 (pt T RT [.slice (some ⟨g, 0, none⟩) rj1.length c, iv ad] :: vec (some ⟨g, 0, none⟩) rj1.length c RJT 4 (rcs rj1) :: (L1 ++ L)) w'
      rw [hl1]
      exact hw'.perm (List.perm_append_comm_assoc L1 [_, _] L))
  unfold stA stR
  rw [hr1]
  by_cases hz : wr ((nth rj k).l - 1) = 0
  · rw [decide_eq_true hz, if_pos hz]
    refine calls_wcG (args := [bp T, iv k]) [.cell 4 51] (rschd T (some ⟨g, 0, none⟩) c ad rj ++ L) Try.func26 rfl Try.ntmps26 rfl rfl hw ?_
    (refine WC.seq ?_; intro K hK)
    refine WC.region rfl ?_
    refine WL.want rfl (WL1.alloc rfl rfl rfl rfl (fun b4 => ?_))
    refine WL.nil ?_
    (refine hK _ _ ?_; clear hK)
    (refine WC.seq ?_; intro K hK)
    refine WC.region rfl ?_
    refine WL.want rfl (WL1.give rfl (g_move rfl (.mk (v := cellPtr _ _) rfl rfl)) ?_)
    refine WL.want rfl (WL1.give rfl (g_nilCheck rfl (.mk rfl rfl) (fun _ _ => rfl)) ?_)
    refine WL.want rfl (WL1.give rfl (g_fieldAddr (off := 0) rfl (.mk rfl rfl) rfl (fun _ _ => rfl)) ?_)
    refine WL.want rfl (WL1.give rfl (g_load rfl (.mk rfl rfl) rfl (rd_pt (.tail _ (.head _)) rfl)) ?_)
    refine WL.want rfl (WL1.give rfl (g_move rfl (.mk (v := .int _ _) rfl rfl)) ?_)
    refine WL.want rfl (WL1.give rfl (g_indexAddr (sz := 4) rfl (.mk rfl rfl) (.mk rfl rfl) rfl rfl rfl (by omega) (fun _ _ => rfl)) ?_)
    refine WL.want rfl (WL1.give rfl (g_fieldAddr (off := 3) rfl (.mk rfl rfl) rfl (fun _ _ => rfl)) ?_)
    refine WL.want rfl (WL1.give rfl (g_load rfl (.mk rfl rfl) rfl (rd_vec (by first | ((repeat (first | exact .head _ | apply List.Mem.tail)); done) | fail) hg3)) ?_)
    refine WL.want rfl (WL1.give rfl (g_sub rfl (.mk rfl rfl) (.mk rfl rfl) rfl) ?_)
    refine WL.want rfl (WL1.give rfl (g_indexAddr (sz := 4) rfl (.mk rfl rfl) (.mk rfl rfl) rfl rfl rfl (by omega) (fun _ _ => rfl)) ?_)
    refine WL.want rfl (WL1.give rfl (g_fieldAddr (off := 3) rfl (.mk rfl rfl) rfl (fun _ _ => rfl)) ?_)
    refine WL.want rfl (WL1.storeV1 rfl rfl (.mk rfl rfl) (.mk (v := .int _ _) rfl rfl) rfl rfl (by first | omega | (simp; done) | (simp; omega)) (.tail (.tail (.head))) ?_)
    refine WL.nil ?_
    (refine hK _ _ ?_; clear hK)
    rw [hset]
    (refine WC.seq ?_; intro K hK)
    refine WC.untilL [19] rfl (by kernel_rfl) ?_
    refine WB.takeP 0 rfl (by decide +kernel) (by decide +kernel) (by decide +kernel) (by decide +kernel) rfl rfl (.inr (Imp.sub (by first | ((repeat (first | exact List.nil_sublist _ | exact List.Sublist.refl _ | apply List.Sublist.cons_cons | apply List.Sublist.cons)); done) | fail))) (g_move rfl (.mk (v := cellPtr _ _) rfl rfl)) ?_
    refine WB.takeP 1 rfl (by decide +kernel) (by decide +kernel) (by decide +kernel) (by decide +kernel) rfl rfl (.inr (Imp.sub (by first | ((repeat (first | exact List.nil_sublist _ | exact List.Sublist.refl _ | apply List.Sublist.cons_cons | apply List.Sublist.cons)); done) | fail))) (g_nilCheck rfl (.mk rfl rfl) (fun _ _ => rfl)) ?_
    refine WB.takeP 2 rfl (by decide +kernel) (by decide +kernel) (by decide +kernel) (by decide +kernel) rfl rfl (.inr (Imp.sub (by first | ((repeat (first | exact List.nil_sublist _ | exact List.Sublist.refl _ | apply List.Sublist.cons_cons | apply List.Sublist.cons)); done) | fail))) (g_fieldAddr (off := 0) rfl (.mk rfl rfl) rfl (fun _ _ => rfl)) ?_
    refine WB.take 3 rfl (by decide +kernel) (by decide +kernel) (by decide +kernel) (by decide +kernel) rfl rfl (Imp.sub (by first | ((repeat (first | exact List.nil_sublist _ | exact List.Sublist.refl _ | apply List.Sublist.cons_cons | apply List.Sublist.cons)); done) | fail)) (g_load rfl (.mk rfl rfl) rfl (rd_pt (.tail _ (.head _)) rfl)) ?_
    refine WB.takeP 4 rfl (by decide +kernel) (by decide +kernel) (by decide +kernel) (by decide +kernel) rfl rfl (.inr (Imp.sub (by first | ((repeat (first | exact List.nil_sublist _ | exact List.Sublist.refl _ | apply List.Sublist.cons_cons | apply List.Sublist.cons)); done) | fail))) (g_move rfl (.mk (v := .int _ _) rfl rfl)) ?_
    refine WB.takeP 5 rfl (by decide +kernel) (by decide +kernel) (by decide +kernel) (by decide +kernel) rfl rfl (.inr (Imp.sub (by first | ((repeat (first | exact List.nil_sublist _ | exact List.Sublist.refl _ | apply List.Sublist.cons_cons | apply List.Sublist.cons)); done) | fail))) (g_indexAddr (sz := 4) rfl (.mk rfl rfl) (.mk rfl rfl) rfl rfl rfl (by omega) (fun _ _ => rfl)) ?_
    refine WB.takeP 6 rfl (by decide +kernel) (by decide +kernel) (by decide +kernel) (by decide +kernel) rfl rfl (.inr (Imp.sub (by first | ((repeat (first | exact List.nil_sublist _ | exact List.Sublist.refl _ | apply List.Sublist.cons_cons | apply List.Sublist.cons)); done) | fail))) (g_fieldAddr (off := 0) rfl (.mk rfl rfl) rfl (fun _ _ => rfl)) ?_
    refine WB.take 7 rfl (by decide +kernel) (by decide +kernel) (by decide +kernel) (by decide +kernel) rfl rfl (Imp.sub (by first | ((repeat (first | exact List.nil_sublist _ | exact List.Sublist.refl _ | apply List.Sublist.cons_cons | apply List.Sublist.cons)); done) | fail)) (g_load rfl (.mk rfl rfl) rfl (rd_vec (by first | ((repeat (first | exact .head _ | apply List.Mem.tail)); done) | fail) hg0)) ?_
    refine WB.takeP 8 rfl (by decide +kernel) (by decide +kernel) (by decide +kernel) (by decide +kernel) rfl rfl (.inr (Imp.sub (by first | ((repeat (first | exact List.nil_sublist _ | exact List.Sublist.refl _ | apply List.Sublist.cons_cons | apply List.Sublist.cons)); done) | fail))) (g_move rfl (.mk (v := cellPtr _ _) rfl rfl)) ?_
    refine WB.takeP 9 rfl (by decide +kernel) (by decide +kernel) (by decide +kernel) (by decide +kernel) rfl rfl (.inr (Imp.sub (by first | ((repeat (first | exact List.nil_sublist _ | exact List.Sublist.refl _ | apply List.Sublist.cons_cons | apply List.Sublist.cons)); done) | fail))) (g_nilCheck rfl (.mk rfl rfl) (fun _ _ => rfl)) ?_
    refine WB.takeP 10 rfl (by decide +kernel) (by decide +kernel) (by decide +kernel) (by decide +kernel) rfl rfl (.inr (Imp.sub (by first | ((repeat (first | exact List.nil_sublist _ | exact List.Sublist.refl _ | apply List.Sublist.cons_cons | apply List.Sublist.cons)); done) | fail))) (g_fieldAddr (off := 0) rfl (.mk rfl rfl) rfl (fun _ _ => rfl)) ?_
    refine WB.take 11 rfl (by decide +kernel) (by decide +kernel) (by decide +kernel) (by decide +kernel) rfl rfl (Imp.sub (by first | ((repeat (first | exact List.nil_sublist _ | exact List.Sublist.refl _ | apply List.Sublist.cons_cons | apply List.Sublist.cons)); done) | fail)) (g_load rfl (.mk rfl rfl) rfl (rd_pt (.tail _ (.head _)) rfl)) ?_
    refine WB.takeP 12 rfl (by decide +kernel) (by decide +kernel) (by decide +kernel) (by decide +kernel) rfl rfl (.inr (Imp.sub (by first | ((repeat (first | exact List.nil_sublist _ | exact List.Sublist.refl _ | apply List.Sublist.cons_cons | apply List.Sublist.cons)); done) | fail))) (g_move rfl (.mk (v := .int _ _) rfl rfl)) ?_
    refine WB.takeP 13 rfl (by decide +kernel) (by decide +kernel) (by decide +kernel) (by decide +kernel) rfl rfl (.inr (Imp.sub (by first | ((repeat (first | exact List.nil_sublist _ | exact List.Sublist.refl _ | apply List.Sublist.cons_cons | apply List.Sublist.cons)); done) | fail))) (g_indexAddr (sz := 4) rfl (.mk rfl rfl) (.mk rfl rfl) rfl rfl rfl (by omega) (fun _ _ => rfl)) ?_
    refine WB.takeP 14 rfl (by decide +kernel) (by decide +kernel) (by decide +kernel) (by decide +kernel) rfl rfl (.inr (Imp.sub (by first | ((repeat (first | exact List.nil_sublist _ | exact List.Sublist.refl _ | apply List.Sublist.cons_cons | apply List.Sublist.cons)); done) | fail))) (g_fieldAddr (off := 3) rfl (.mk rfl rfl) rfl (fun _ _ => rfl)) ?_
    refine WB.take 15 rfl (by decide +kernel) (by decide +kernel) (by decide +kernel) (by decide +kernel) rfl rfl (Imp.sub (by first | ((repeat (first | exact List.nil_sublist _ | exact List.Sublist.refl _ | apply List.Sublist.cons_cons | apply List.Sublist.cons)); done) | fail)) (g_load rfl (.mk rfl rfl) rfl (rd_vec (by first | ((repeat (first | exact .head _ | apply List.Mem.tail)); done) | fail) hg1)) ?_
    refine WB.takeP 16 rfl (by decide +kernel) (by decide +kernel) (by decide +kernel) (by decide +kernel) rfl rfl (.inr (Imp.sub (by first | ((repeat (first | exact List.nil_sublist _ | exact List.Sublist.refl _ | apply List.Sublist.cons_cons | apply List.Sublist.cons)); done) | fail))) (g_eq (p := true) rfl (.mk rfl rfl) (.mk rfl rfl) (decide_eq_true hz)) ?_
    refine WB.takeP 17 rfl (by decide +kernel) (by decide +kernel) (by decide +kernel) (by decide +kernel) rfl rfl (.inr (Imp.sub (by first | ((repeat (first | exact List.nil_sublist _ | exact List.Sublist.refl _ | apply List.Sublist.cons_cons | apply List.Sublist.cons)); done) | fail))) (g_build (cs := [_, _, _]) rfl rfl rfl rfl (.cons (.mk (v := .int _ _) rfl rfl) (.cons (.mk (v := .bool _) rfl rfl) .nil)) rfl rfl rfl) ?_
    refine WB.one 18 (by decide +kernel) rfl rfl ?_
    refine WL1.alloc rfl rfl rfl rfl (fun b5 => ?_)
    refine WL.nil ?_
    refine ⟨.inr (Imp.sub (by first | ((repeat (first | exact List.nil_sublist _ | exact List.Sublist.refl _ | apply List.Sublist.cons_cons | apply List.Sublist.cons)); done) | fail)), ?_⟩
    refine WB.one 19 (by decide +kernel) rfl rfl ?_
    refine WL1.storeAll rfl rfl (.mk rfl rfl) (.mk rfl rfl) rfl (all1 rfl) (by first | rfl | (simp [Blk.len]; done)) (.head) ?_
    refine WL.nil ?_
    refine ⟨.inl (by decide +kernel), ?_⟩
    refine WB.done (by decide +kernel) ?_
    (refine hK _ _ ?_; clear hK)
    (refine WC.seq ?_; intro K hK)
    (refine WC.seq ?_; intro K hK)
    refine WC.region rfl ?_
    refine WL.want rfl (WL1.give rfl (g_fieldAddr (off := 1) rfl (.mk rfl rfl) rfl (fun _ _ => rfl)) ?_)
    refine WL.want rfl (WL1.give rfl (g_load rfl (.mk rfl rfl) rfl (rd_pt (.head _) rfl)) ?_)
    refine WL.nil ?_
    (refine hK _ _ ?_; clear hK)
    refine WC.cond_true (.mk rfl rfl) ?_
    refine WC.region rfl ?_
    refine WL.want rfl (WL1.give rfl (g_move rfl (.mk (v := cellPtr _ _) rfl rfl)) ?_)
    refine WL.want rfl (WL1.give rfl (g_move rfl (.mk (v := .int _ _) rfl rfl)) ?_)
    (refine WL.want rfl (WL1.callF rfl rfl rfl (.cons (.mk (v := cellPtr _ _) rfl rfl) (.cons (.mk (v := .int _ _) rfl rfl) .nil)) (fun w hw => HD [_, _] w hw) ?_); rintro _ _ ⟨D1, c1, rfl, rfl⟩)
    refine WL.nil ?_
    (refine hK _ _ ?_; clear hK)
    (refine WC.seq ?_; intro K hK)
    refine WC.region rfl ?_
    refine WL.want rfl (WL1.give rfl (g_loadA rfl (.mk rfl rfl) rfl rfl (rdr_pt (.tail _ (.tail _ (.head _))) (fun j u h => by simpa using h))) ?_)
    refine WL.want rfl (WL1.storeAll rfl rfl (.mk rfl rfl) (.mk rfl rfl) rfl (all1 rfl) (by first | rfl | (simp [Blk.len]; done)) (.tail (.tail (.tail (.head)))) ?_)
    refine WL.nil ?_
    (refine hK _ _ ?_; clear hK)
    refine WC.ret ?_
    exact ⟨_, .cell rfl rfl rfl rfl (.tail _ (.tail _ (.tail _ (.head _)))) .nil, fun w' hw' => ⟨_, _, rfl, hw'.sub (.cons_cons _ (.cons_cons _ (.cons _ (.cons _ (.refl _))))), D1, c1, rfl, rfl⟩⟩
  · rw [decide_eq_false hz, if_neg hz]
    refine calls_wcG (args := [bp T, iv k]) [.cell 4 51] (rschd T (some ⟨g, 0, none⟩) c ad rj ++ L) Try.func26 rfl Try.ntmps26 rfl rfl hw ?_
    (refine WC.seq ?_; intro K hK)
    refine WC.region rfl ?_
    refine WL.want rfl (WL1.alloc rfl rfl rfl rfl (fun b4 => ?_))
    refine WL.nil ?_
    (refine hK _ _ ?_; clear hK)
    (refine WC.seq ?_; intro K hK)
    refine WC.region rfl ?_
    refine WL.want rfl (WL1.give rfl (g_move rfl (.mk (v := cellPtr _ _) rfl rfl)) ?_)
    refine WL.want rfl (WL1.give rfl (g_nilCheck rfl (.mk rfl rfl) (fun _ _ => rfl)) ?_)
    refine WL.want rfl (WL1.give rfl (g_fieldAddr (off := 0) rfl (.mk rfl rfl) rfl (fun _ _ => rfl)) ?_)
    refine WL.want rfl (WL1.give rfl (g_load rfl (.mk rfl rfl) rfl (rd_pt (.tail _ (.head _)) rfl)) ?_)
    refine WL.want rfl (WL1.give rfl (g_move rfl (.mk (v := .int _ _) rfl rfl)) ?_)
    refine WL.want rfl (WL1.give rfl (g_indexAddr (sz := 4) rfl (.mk rfl rfl) (.mk rfl rfl) rfl rfl rfl (by omega) (fun _ _ => rfl)) ?_)
    refine WL.want rfl (WL1.give rfl (g_fieldAddr (off := 3) rfl (.mk rfl rfl) rfl (fun _ _ => rfl)) ?_)
    refine WL.want rfl (WL1.give rfl (g_load rfl (.mk rfl rfl) rfl (rd_vec (by first | ((repeat (first | exact .head _ | apply List.Mem.tail)); done) | fail) hg3)) ?_)
    refine WL.want rfl (WL1.give rfl (g_sub rfl (.mk rfl rfl) (.mk rfl rfl) rfl) ?_)
    refine WL.want rfl (WL1.give rfl (g_indexAddr (sz := 4) rfl (.mk rfl rfl) (.mk rfl rfl) rfl rfl rfl (by omega) (fun _ _ => rfl)) ?_)
    refine WL.want rfl (WL1.give rfl (g_fieldAddr (off := 3) rfl (.mk rfl rfl) rfl (fun _ _ => rfl)) ?_)
    refine WL.want rfl (WL1.storeV1 rfl rfl (.mk rfl rfl) (.mk (v := .int _ _) rfl rfl) rfl rfl (by first | omega | (simp; done) | (simp; omega)) (.tail (.tail (.head))) ?_)
    refine WL.nil ?_
    (refine hK _ _ ?_; clear hK)
    rw [hset]
    (refine WC.seq ?_; intro K hK)
    refine WC.untilL [19] rfl (by kernel_rfl) ?_
    refine WB.takeP 0 rfl (by decide +kernel) (by decide +kernel) (by decide +kernel) (by decide +kernel) rfl rfl (.inr (Imp.sub (by first | ((repeat (first | exact List.nil_sublist _ | exact List.Sublist.refl _ | apply List.Sublist.cons_cons | apply List.Sublist.cons)); done) | fail))) (g_move rfl (.mk (v := cellPtr _ _) rfl rfl)) ?_
    refine WB.takeP 1 rfl (by decide +kernel) (by decide +kernel) (by decide +kernel) (by decide +kernel) rfl rfl (.inr (Imp.sub (by first | ((repeat (first | exact List.nil_sublist _ | exact List.Sublist.refl _ | apply List.Sublist.cons_cons | apply List.Sublist.cons)); done) | fail))) (g_nilCheck rfl (.mk rfl rfl) (fun _ _ => rfl)) ?_
    refine WB.takeP 2 rfl (by decide +kernel) (by decide +kernel) (by decide +kernel) (by decide +kernel) rfl rfl (.inr (Imp.sub (by first | ((repeat (first | exact List.nil_sublist _ | exact List.Sublist.refl _ | apply List.Sublist.cons_cons | apply List.Sublist.cons)); done) | fail))) (g_fieldAddr (off := 0) rfl (.mk rfl rfl) rfl (fun _ _ => rfl)) ?_
    refine WB.take 3 rfl (by decide +kernel) (by decide +kernel) (by decide +kernel) (by decide +kernel) rfl rfl (Imp.sub (by first | ((repeat (first | exact List.nil_sublist _ | exact List.Sublist.refl _ | apply List.Sublist.cons_cons | apply List.Sublist.cons)); done) | fail)) (g_load rfl (.mk rfl rfl) rfl (rd_pt (.tail _ (.head _)) rfl)) ?_
    refine WB.takeP 4 rfl (by decide +kernel) (by decide +kernel) (by decide +kernel) (by decide +kernel) rfl rfl (.inr (Imp.sub (by first | ((repeat (first | exact List.nil_sublist _ | exact List.Sublist.refl _ | apply List.Sublist.cons_cons | apply List.Sublist.cons)); done) | fail))) (g_move rfl (.mk (v := .int _ _) rfl rfl)) ?_
    refine WB.takeP 5 rfl (by decide +kernel) (by decide +kernel) (by decide +kernel) (by decide +kernel) rfl rfl (.inr (Imp.sub (by first | ((repeat (first | exact List.nil_sublist _ | exact List.Sublist.refl _ | apply List.Sublist.cons_cons | apply List.Sublist.cons)); done) | fail))) (g_indexAddr (sz := 4) rfl (.mk rfl rfl) (.mk rfl rfl) rfl rfl rfl (by omega) (fun _ _ => rfl)) ?_
    refine WB.takeP 6 rfl (by decide +kernel) (by decide +kernel) (by decide +kernel) (by decide +kernel) rfl rfl (.inr (Imp.sub (by first | ((repeat (first | exact List.nil_sublist _ | exact List.Sublist.refl _ | apply List.Sublist.cons_cons | apply List.Sublist.cons)); done) | fail))) (g_fieldAddr (off := 0) rfl (.mk rfl rfl) rfl (fun _ _ => rfl)) ?_
    refine WB.take 7 rfl (by decide +kernel) (by decide +kernel) (by decide +kernel) (by decide +kernel) rfl rfl (Imp.sub (by first | ((repeat (first | exact List.nil_sublist _ | exact List.Sublist.refl _ | apply List.Sublist.cons_cons | apply List.Sublist.cons)); done) | fail)) (g_load rfl (.mk rfl rfl) rfl (rd_vec (by first | ((repeat (first | exact .head _ | apply List.Mem.tail)); done) | fail) hg0)) ?_
    refine WB.takeP 8 rfl (by decide +kernel) (by decide +kernel) (by decide +kernel) (by decide +kernel) rfl rfl (.inr (Imp.sub (by first | ((repeat (first | exact List.nil_sublist _ | exact List.Sublist.refl _ | apply List.Sublist.cons_cons | apply List.Sublist.cons)); done) | fail))) (g_move rfl (.mk (v := cellPtr _ _) rfl rfl)) ?_
    refine WB.takeP 9 rfl (by decide +kernel) (by decide +kernel) (by decide +kernel) (by decide +kernel) rfl rfl (.inr (Imp.sub (by first | ((repeat (first | exact List.nil_sublist _ | exact List.Sublist.refl _ | apply List.Sublist.cons_cons | apply List.Sublist.cons)); done) | fail))) (g_nilCheck rfl (.mk rfl rfl) (fun _ _ => rfl)) ?_
    refine WB.takeP 10 rfl (by decide +kernel) (by decide +kernel) (by decide +kernel) (by decide +kernel) rfl rfl (.inr (Imp.sub (by first | ((repeat (first | exact List.nil_sublist _ | exact List.Sublist.refl _ | apply List.Sublist.cons_cons | apply List.Sublist.cons)); done) | fail))) (g_fieldAddr (off := 0) rfl (.mk rfl rfl) rfl (fun _ _ => rfl)) ?_
    refine WB.take 11 rfl (by decide +kernel) (by decide +kernel) (by decide +kernel) (by decide +kernel) rfl rfl (Imp.sub (by first | ((repeat (first | exact List.nil_sublist _ | exact List.Sublist.refl _ | apply List.Sublist.cons_cons | apply List.Sublist.cons)); done) | fail)) (g_load rfl (.mk rfl rfl) rfl (rd_pt (.tail _ (.head _)) rfl)) ?_
    refine WB.takeP 12 rfl (by decide +kernel) (by decide +kernel) (by decide +kernel) (by decide +kernel) rfl rfl (.inr (Imp.sub (by first | ((repeat (first | exact List.nil_sublist _ | exact List.Sublist.refl _ | apply List.Sublist.cons_cons | apply List.Sublist.cons)); done) | fail))) (g_move rfl (.mk (v := .int _ _) rfl rfl)) ?_
    refine WB.takeP 13 rfl (by decide +kernel) (by decide +kernel) (by decide +kernel) (by decide +kernel) rfl rfl (.inr (Imp.sub (by first | ((repeat (first | exact List.nil_sublist _ | exact List.Sublist.refl _ | apply List.Sublist.cons_cons | apply List.Sublist.cons)); done) | fail))) (g_indexAddr (sz := 4) rfl (.mk rfl rfl) (.mk rfl rfl) rfl rfl rfl (by omega) (fun _ _ => rfl)) ?_
    refine WB.takeP 14 rfl (by decide +kernel) (by decide +kernel) (by decide +kernel) (by decide +kernel) rfl rfl (.inr (Imp.sub (by first | ((repeat (first | exact List.nil_sublist _ | exact List.Sublist.refl _ | apply List.Sublist.cons_cons | apply List.Sublist.cons)); done) | fail))) (g_fieldAddr (off := 3) rfl (.mk rfl rfl) rfl (fun _ _ => rfl)) ?_
    refine WB.take 15 rfl (by decide +kernel) (by decide +kernel) (by decide +kernel) (by decide +kernel) rfl rfl (Imp.sub (by first | ((repeat (first | exact List.nil_sublist _ | exact List.Sublist.refl _ | apply List.Sublist.cons_cons | apply List.Sublist.cons)); done) | fail)) (g_load rfl (.mk rfl rfl) rfl (rd_vec (by first | ((repeat (first | exact .head _ | apply List.Mem.tail)); done) | fail) hg1)) ?_
    refine WB.takeP 16 rfl (by decide +kernel) (by decide +kernel) (by decide +kernel) (by decide +kernel) rfl rfl (.inr (Imp.sub (by first | ((repeat (first | exact List.nil_sublist _ | exact List.Sublist.refl _ | apply List.Sublist.cons_cons | apply List.Sublist.cons)); done) | fail))) (g_eq (p := false) rfl (.mk rfl rfl) (.mk rfl rfl) (decide_eq_false hz)) ?_
    refine WB.takeP 17 rfl (by decide +kernel) (by decide +kernel) (by decide +kernel) (by decide +kernel) rfl rfl (.inr (Imp.sub (by first | ((repeat (first | exact List.nil_sublist _ | exact List.Sublist.refl _ | apply List.Sublist.cons_cons | apply List.Sublist.cons)); done) | fail))) (g_build (cs := [_, _, _]) rfl rfl rfl rfl (.cons (.mk (v := .int _ _) rfl rfl) (.cons (.mk (v := .bool _) rfl rfl) .nil)) rfl rfl rfl) ?_
    refine WB.one 18 (by decide +kernel) rfl rfl ?_
    refine WL1.alloc rfl rfl rfl rfl (fun b5 => ?_)
    refine WL.nil ?_
    refine ⟨.inr (Imp.sub (by first | ((repeat (first | exact List.nil_sublist _ | exact List.Sublist.refl _ | apply List.Sublist.cons_cons | apply List.Sublist.cons)); done) | fail)), ?_⟩
    refine WB.one 19 (by decide +kernel) rfl rfl ?_
    refine WL1.storeAll rfl rfl (.mk rfl rfl) (.mk rfl rfl) rfl (all1 rfl) (by first | rfl | (simp [Blk.len]; done)) (.head) ?_
    refine WL.nil ?_
    refine ⟨.inl (by decide +kernel), ?_⟩
    refine WB.done (by decide +kernel) ?_
    (refine hK _ _ ?_; clear hK)
    (refine WC.seq ?_; intro K hK)
    (refine WC.seq ?_; intro K hK)
    refine WC.region rfl ?_
    refine WL.want rfl (WL1.give rfl (g_fieldAddr (off := 1) rfl (.mk rfl rfl) rfl (fun _ _ => rfl)) ?_)
    refine WL.want rfl (WL1.give rfl (g_load rfl (.mk rfl rfl) rfl (rd_pt (.head _) rfl)) ?_)
    refine WL.nil ?_
    (refine hK _ _ ?_; clear hK)
    refine WC.cond_false (.mk rfl rfl) ?_
    refine WC.skip ?_
    (refine hK _ _ ?_; clear hK)
    (refine WC.seq ?_; intro K hK)
    refine WC.region rfl ?_
    refine WL.want rfl (WL1.give rfl (g_loadA rfl (.mk rfl rfl) rfl rfl (rdr_pt (.head _) (fun j u h => by simpa using h))) ?_)
    refine WL.want rfl (WL1.storeAll rfl rfl (.mk rfl rfl) (.mk rfl rfl) rfl (all1 rfl) (by first | rfl | (simp [Blk.len]; done)) (.tail (.head)) ?_)
    refine WL.nil ?_
    (refine hK _ _ ?_; clear hK)
    refine WC.ret ?_
    exact ⟨_, .cell rfl rfl rfl rfl (.tail _ (.head _)) .nil, fun w' hw' => ⟨_, _, rfl, by
      have := hw'.sub (.cons _ (.cons _ (.refl _)))
      rw [← hl1] at this
      exact this, some ⟨g, 0, none⟩, c, rfl, rfl⟩⟩
end
end Go.Proofs.Ytbofagfilohhfaa
