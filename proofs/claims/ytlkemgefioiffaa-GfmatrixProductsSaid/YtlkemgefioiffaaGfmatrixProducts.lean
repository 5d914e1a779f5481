/- GfmatrixProducts answers true, whatever the matrices and the list: Mul and Apply are the products, or an error, and leave their arguments. No condition. -/
import Derived.Test.YtlkemgefioiffaaMat11
import Derived.Test.YtlkemgefioiffaaOpenM
namespace Go.Proofs.Ytlkemgefioiffaa.LGfmatrixProducts
open Go.RowKit Go.WideShapes Go.ChangeShapes Go.ChangeAt
attribute [local irreducible] Calls

theorem bsame_t {v1 v2 : Value} {a b : List G} {n : Nat} {w : World} (h1 : Sl w 1 v1 n (bvs a)) (h2 : Sl w 1 v2 n (bvs b)) (hn : a.length = n) (he : a = b) : Calls Try.prog 27 #[v1, v2] w fun e w' => e = .returned (.bool true) ∧ Below w.heap.size w w' := by
  subst he; subst hn
  exact (same_any v1 v2 a a w h1 h2).mono fun _ _ ⟨h1, h2⟩ => ⟨by rw [h1, sameG_of rfl], by rw [h2]; exact .refl _ _⟩
theorem el0 {a r : List Row} (h : els r = els a) (ha : 1 ≤ a.length) : (nth r 0).l.length = (nth a 0).l.length := by
  have hl : r.length = a.length := by rw [← els_len r, h, els_len]
  rw [els_row h (by omega), els_at ha]
theorem ap_len (m : List (List G)) (v : List G) : (apM m v).length = m.length := by simp [apM]
set_option maxRecDepth 20000 in
set_option maxHeartbeats 2000000 in
theorem big (w : World) (va vb vv : Value) (a b : List Row) (v : List G) (ha : MatAt w va a) (hb : MatAt w vb b) (hv : Sl w 1 vv v.length (bvs v)) (h : ¬ (Small8 a ∧ Small8 b ∧ v.length ≤ 10)) :
    Calls Try.prog 8 #[va, vb, vv] w fun en w' => en = .returned (.bool true) ∧ Below w.heap.size w w' := by
  obtain ⟨A, c, rfl, hcc, hm, hs⟩ := ha.1.open_
  obtain ⟨B, d, rfl, hcd, hmd, hsb⟩ := hb.1.open_
  obtain ⟨X, x, rfl, hcx, hmx, hsv⟩ := hv.open_
  unfold maxLen at hm hmd hmx
  have sa := fun w' hb => small_e _ a w' (ha.below (w' := w') hb)
  have sb := fun w' hc => small_e _ b w' (hb.below (w' := w') hc)
  by_cases h1 : Small8 a
  · rw [decide_eq_true h1] at sa
    by_cases h2 : Small8 b
    · rw [decide_eq_true h2] at sb
      have h3 : ¬ v.length ≤ 10 := fun h3 => h ⟨h1, h2, h3⟩
      refine calls_wc (args := [.slice A a.length c, .slice B b.length d, .slice X v.length x]) [6] [] Try.func8 rfl Try.ntmps8 rfl rfl rfl rfl (H.refl w) ?_
      (refine WC.seq ?_; intro K hK)
      refine WC.region rfl ?_
      refine WL.want rfl (WL1.give rfl (g_assign rfl (.mk (v := .bool _) rfl rfl)) ?_)
      refine WL.nil ?_
      (refine hK _ _ ?_; clear hK)
      (refine WC.seq ?_; intro K hK)
      (refine WC.seq ?_; intro K hK)
      refine WC.region rfl ?_
      refine WL.want rfl (WL1.callP rfl rfl rfl .nil (fun w hw => awake_e w) ?_)
      refine WL.want rfl (WL1.give rfl (g_notT rfl (.mk rfl rfl)) ?_)
      refine WL.nil ?_
      (refine hK _ _ ?_; clear hK)
      refine WC.cond_false (.mk rfl rfl) ?_
      refine WC.skip ?_
      (refine hK _ _ ?_; clear hK)
      (refine WC.seq ?_; intro K hK)
      (refine WC.seq ?_; intro K hK)
      refine WC.region rfl ?_
      refine WL.want rfl (WL1.give rfl (g_move rfl (.mk (v := .slice _ _ _) rfl rfl)) ?_)
      refine WL.want rfl (WL1.callP rfl rfl rfl (.cons (.mk (v := .slice _ _ _) rfl rfl) .nil) (fun w hw => sa w hw.1) ?_)
      refine WL.want rfl (WL1.give rfl (g_notT rfl (.mk rfl rfl)) ?_)
      refine WL.want rfl (WL1.give rfl (g_move rfl (.mk (v := .bool _) rfl rfl)) ?_)
      refine WL.wantG rfl rfl rfl rfl (WL1.give rfl (g_move rfl (.mk (v := .slice _ _ _) rfl rfl)) ?_)
      refine WL.wantG rfl rfl rfl rfl (WL1.callP rfl rfl rfl (.cons (.mk (v := .slice _ _ _) rfl rfl) .nil) (fun w hw => sb w hw.1) ?_)
      refine WL.wantG rfl rfl rfl rfl (WL1.give rfl (g_notT rfl (.mk rfl rfl)) ?_)
      refine WL.want rfl (WL1.give rfl (g_pickF rfl (.mk rfl rfl) (.mk (v := .bool _) rfl rfl)) ?_)
      refine WL.want rfl (WL1.give rfl (g_move rfl (.mk (v := .bool _) rfl rfl)) ?_)
      refine WL.wantG rfl rfl rfl rfl (WL1.give rfl (g_move rfl (.mk (v := .slice _ _ _) rfl rfl)) ?_)
      refine WL.wantG rfl rfl rfl rfl (WL1.give rfl (g_len rfl (.mk rfl rfl) rfl) ?_)
      refine WL.wantG rfl rfl rfl rfl (WL1.give rfl (g_gt rfl (.mk rfl rfl) (.mk rfl rfl) (decide_eq_true (by omega))) ?_)
      refine WL.want rfl (WL1.give rfl (g_pickF rfl (.mk rfl rfl) (.mk (v := .bool _) rfl rfl)) ?_)
      refine WL.nil ?_
      (refine hK _ _ ?_; clear hK)
      refine WC.cond_true (.mk rfl rfl) ?_
      (refine WC.seq ?_; intro K hK)
      refine WC.region rfl ?_
      refine WL.want rfl (WL1.give rfl (g_assign rfl (.mk (v := .bool _) rfl rfl)) ?_)
      refine WL.nil ?_
      (refine hK _ _ ?_; clear hK)
      refine WC.ret ?_
      exact fun w' hw' => ⟨rfl, hw'.1⟩
    · rw [decide_eq_false h2] at sb
      refine calls_wc (args := [.slice A a.length c, .slice B b.length d, .slice X v.length x]) [6] [] Try.func8 rfl Try.ntmps8 rfl rfl rfl rfl (H.refl w) ?_
      (refine WC.seq ?_; intro K hK)
      refine WC.region rfl ?_
      refine WL.want rfl (WL1.give rfl (g_assign rfl (.mk (v := .bool _) rfl rfl)) ?_)
      refine WL.nil ?_
      (refine hK _ _ ?_; clear hK)
      (refine WC.seq ?_; intro K hK)
      (refine WC.seq ?_; intro K hK)
      refine WC.region rfl ?_
      refine WL.want rfl (WL1.callP rfl rfl rfl .nil (fun w hw => awake_e w) ?_)
      refine WL.want rfl (WL1.give rfl (g_notT rfl (.mk rfl rfl)) ?_)
      refine WL.nil ?_
      (refine hK _ _ ?_; clear hK)
      refine WC.cond_false (.mk rfl rfl) ?_
      refine WC.skip ?_
      (refine hK _ _ ?_; clear hK)
      (refine WC.seq ?_; intro K hK)
      (refine WC.seq ?_; intro K hK)
      refine WC.region rfl ?_
      refine WL.want rfl (WL1.give rfl (g_move rfl (.mk (v := .slice _ _ _) rfl rfl)) ?_)
      refine WL.want rfl (WL1.callP rfl rfl rfl (.cons (.mk (v := .slice _ _ _) rfl rfl) .nil) (fun w hw => sa w hw.1) ?_)
      refine WL.want rfl (WL1.give rfl (g_notT rfl (.mk rfl rfl)) ?_)
      refine WL.want rfl (WL1.give rfl (g_move rfl (.mk (v := .bool _) rfl rfl)) ?_)
      refine WL.wantG rfl rfl rfl rfl (WL1.give rfl (g_move rfl (.mk (v := .slice _ _ _) rfl rfl)) ?_)
      refine WL.wantG rfl rfl rfl rfl (WL1.callP rfl rfl rfl (.cons (.mk (v := .slice _ _ _) rfl rfl) .nil) (fun w hw => sb w hw.1) ?_)
      refine WL.wantG rfl rfl rfl rfl (WL1.give rfl (g_notF rfl (.mk rfl rfl)) ?_)
      refine WL.want rfl (WL1.give rfl (g_pickF rfl (.mk rfl rfl) (.mk (v := .bool _) rfl rfl)) ?_)
      refine WL.want rfl (WL1.give rfl (g_move rfl (.mk (v := .bool _) rfl rfl)) ?_)
      refine WL.skipG rfl rfl rfl rfl rfl rfl ?_
      refine WL.skipG rfl rfl rfl rfl rfl rfl ?_
      refine WL.skipG rfl rfl rfl rfl rfl rfl ?_
      refine WL.want rfl (WL1.give rfl (g_pickT rfl (.mk rfl rfl) (.mk (v := .bool _) rfl rfl)) ?_)
      refine WL.nil ?_
      (refine hK _ _ ?_; clear hK)
      refine WC.cond_true (.mk rfl rfl) ?_
      (refine WC.seq ?_; intro K hK)
      refine WC.region rfl ?_
      refine WL.want rfl (WL1.give rfl (g_assign rfl (.mk (v := .bool _) rfl rfl)) ?_)
      refine WL.nil ?_
      (refine hK _ _ ?_; clear hK)
      refine WC.ret ?_
      exact fun w' hw' => ⟨rfl, hw'.1⟩
  · rw [decide_eq_false h1] at sa
    refine calls_wc (args := [.slice A a.length c, .slice B b.length d, .slice X v.length x]) [6] [] Try.func8 rfl Try.ntmps8 rfl rfl rfl rfl (H.refl w) ?_
    (refine WC.seq ?_; intro K hK)
    refine WC.region rfl ?_
    refine WL.want rfl (WL1.give rfl (g_assign rfl (.mk (v := .bool _) rfl rfl)) ?_)
    refine WL.nil ?_
    (refine hK _ _ ?_; clear hK)
    (refine WC.seq ?_; intro K hK)
    (refine WC.seq ?_; intro K hK)
    refine WC.region rfl ?_
    refine WL.want rfl (WL1.callP rfl rfl rfl .nil (fun w hw => awake_e w) ?_)
    refine WL.want rfl (WL1.give rfl (g_notT rfl (.mk rfl rfl)) ?_)
    refine WL.nil ?_
    (refine hK _ _ ?_; clear hK)
    refine WC.cond_false (.mk rfl rfl) ?_
    refine WC.skip ?_
    (refine hK _ _ ?_; clear hK)
    (refine WC.seq ?_; intro K hK)
    (refine WC.seq ?_; intro K hK)
    refine WC.region rfl ?_
    refine WL.want rfl (WL1.give rfl (g_move rfl (.mk (v := .slice _ _ _) rfl rfl)) ?_)
    refine WL.want rfl (WL1.callP rfl rfl rfl (.cons (.mk (v := .slice _ _ _) rfl rfl) .nil) (fun w hw => sa w hw.1) ?_)
    refine WL.want rfl (WL1.give rfl (g_notF rfl (.mk rfl rfl)) ?_)
    refine WL.want rfl (WL1.give rfl (g_move rfl (.mk (v := .bool _) rfl rfl)) ?_)
    refine WL.skipG rfl rfl rfl rfl rfl rfl ?_
    refine WL.skipG rfl rfl rfl rfl rfl rfl ?_
    refine WL.skipG rfl rfl rfl rfl rfl rfl ?_
    refine WL.want rfl (WL1.give rfl (g_pickT rfl (.mk rfl rfl) (.mk (v := .bool _) rfl rfl)) ?_)
    refine WL.want rfl (WL1.give rfl (g_move rfl (.mk (v := .bool _) rfl rfl)) ?_)
    refine WL.skipG rfl rfl rfl rfl rfl rfl ?_
    refine WL.skipG rfl rfl rfl rfl rfl rfl ?_
    refine WL.skipG rfl rfl rfl rfl rfl rfl ?_
    refine WL.want rfl (WL1.give rfl (g_pickT rfl (.mk rfl rfl) (.mk (v := .bool _) rfl rfl)) ?_)
    refine WL.nil ?_
    (refine hK _ _ ?_; clear hK)
    refine WC.cond_true (.mk rfl rfl) ?_
    (refine WC.seq ?_; intro K hK)
    refine WC.region rfl ?_
    refine WL.want rfl (WL1.give rfl (g_assign rfl (.mk (v := .bool _) rfl rfl)) ?_)
    refine WL.nil ?_
    (refine hK _ _ ?_; clear hK)
    refine WC.ret ?_
    exact fun w' hw' => ⟨rfl, hw'.1⟩
--SMALL
set_option maxRecDepth 20000 in
set_option maxHeartbeats 2000000 in
theorem sNa (w : World) (A B X : Option Addr) (c d x : Nat) (a b : List Row) (v : List G) (ha : MatAt w (.slice A a.length c) a) (hb : MatAt w (.slice B b.length d) b) (hv : Sl w 1 (.slice X v.length x) v.length (bvs v)) (h1 : Small8 a) (h2 : Small8 b) (h3 : v.length ≤ 10) (ga : ¬ Good (els a)) :
    Calls Try.prog 8 #[.slice A a.length c, .slice B b.length d, .slice X v.length x] w fun en w' => en = .returned (.bool true) ∧ Below w.heap.size w w' := by
  have hs := ha.1
  have sa := fun w' hb => small_e _ a w' (ha.below (w' := w') hb)
  have sb := fun w' hc => small_e _ b w' (hb.below (w' := w') hc)
  rw [decide_eq_true h1] at sa
  rw [decide_eq_true h2] at sb
  have al := h1.1
  have bl := h2.1
  have ba : ∀ i, i < a.length → (nth a i).l.length ≤ 1000 := fun i hi => Nat.le_trans (h1.2 i hi) (by omega)
  have bb : ∀ i, i < b.length → (nth b i).l.length ≤ 1000 := fun i hi => Nat.le_trans (h2.2 i hi) (by omega)
  have xa := fun w' hb => rvalid_e _ a w' (ha.below (w' := w') hb)
  have xb := fun w' hc => rvalid_e _ b w' (hb.below (w' := w') hc)
  rw [goodB_no ga] at xa
  have nm : ¬ (Good (els a) ∧ Good (els b) ∧ (nth a 0).l.length = b.length) := fun q => ga q.1
  have na : ¬ (Good (els a) ∧ v.length = (nth a 0).l.length) := fun q => ga q.1
  refine calls_wc (args := [.slice A a.length c, .slice B b.length d, .slice X v.length x]) [6] [] Try.func8 rfl Try.ntmps8 rfl rfl rfl rfl (H.refl w) ?_
  (refine WC.seq ?_; intro K hK)
  refine WC.region rfl ?_
  refine WL.want rfl (WL1.give rfl (g_assign rfl (.mk (v := .bool _) rfl rfl)) ?_)
  refine WL.nil ?_
  (refine hK _ _ ?_; clear hK)
  (refine WC.seq ?_; intro K hK)
  (refine WC.seq ?_; intro K hK)
  refine WC.region rfl ?_
  refine WL.want rfl (WL1.callP rfl rfl rfl .nil (fun w hw => awake_e w) ?_)
  refine WL.want rfl (WL1.give rfl (g_notT rfl (.mk rfl rfl)) ?_)
  refine WL.nil ?_
  (refine hK _ _ ?_; clear hK)
  refine WC.cond_false (.mk rfl rfl) ?_
  refine WC.skip ?_
  (refine hK _ _ ?_; clear hK)
  (refine WC.seq ?_; intro K hK)
  (refine WC.seq ?_; intro K hK)
  refine WC.region rfl ?_
  refine WL.want rfl (WL1.give rfl (g_move rfl (.mk (v := .slice _ _ _) rfl rfl)) ?_)
  refine WL.want rfl (WL1.callP rfl rfl rfl (.cons (.mk (v := .slice _ _ _) rfl rfl) .nil) (fun w hw => sa w hw.1) ?_)
  refine WL.want rfl (WL1.give rfl (g_notT rfl (.mk rfl rfl)) ?_)
  refine WL.want rfl (WL1.give rfl (g_move rfl (.mk (v := .bool _) rfl rfl)) ?_)
  refine WL.wantG rfl rfl rfl rfl (WL1.give rfl (g_move rfl (.mk (v := .slice _ _ _) rfl rfl)) ?_)
  refine WL.wantG rfl rfl rfl rfl (WL1.callP rfl rfl rfl (.cons (.mk (v := .slice _ _ _) rfl rfl) .nil) (fun w hw => sb w hw.1) ?_)
  refine WL.wantG rfl rfl rfl rfl (WL1.give rfl (g_notT rfl (.mk rfl rfl)) ?_)
  refine WL.want rfl (WL1.give rfl (g_pickF rfl (.mk rfl rfl) (.mk (v := .bool _) rfl rfl)) ?_)
  refine WL.want rfl (WL1.give rfl (g_move rfl (.mk (v := .bool _) rfl rfl)) ?_)
  refine WL.wantG rfl rfl rfl rfl (WL1.give rfl (g_move rfl (.mk (v := .slice _ _ _) rfl rfl)) ?_)
  refine WL.wantG rfl rfl rfl rfl (WL1.give rfl (g_len rfl (.mk rfl rfl) rfl) ?_)
  refine WL.wantG rfl rfl rfl rfl (WL1.give rfl (g_gt rfl (.mk rfl rfl) (.mk rfl rfl) (decide_eq_false (by omega))) ?_)
  refine WL.want rfl (WL1.give rfl (g_pickF rfl (.mk rfl rfl) (.mk (v := .bool _) rfl rfl)) ?_)
  refine WL.nil ?_
  (refine hK _ _ ?_; clear hK)
  refine WC.cond_false (.mk rfl rfl) ?_
  refine WC.skip ?_
  (refine hK _ _ ?_; clear hK)
  (refine WC.seq ?_; intro K hK)
  refine WC.region rfl ?_
  refine WL.want rfl (WL1.give rfl (g_move rfl (.mk (v := .slice _ _ _) rfl rfl)) ?_)
  (refine WL.want rfl (WL1.callN rfl rfl rfl (.cons (.mk (v := .slice _ _ _) rfl rfl) .nil) (fun w hw => copied_n _ a w (ha.below hw.1) (by omega) ba) ?_); rintro _ _ ⟨A1, c1, r1, rfl, rfl, hr1, hl1⟩)
  refine WL.want rfl (WL1.give rfl (g_move rfl (.mk (v := .slice _ _ _) rfl rfl)) ?_)
  (refine WL.want rfl (WL1.callN rfl rfl rfl (.cons (.mk (v := .slice _ _ _) rfl rfl) .nil) (fun w hw => copied_n _ b w (hb.below hw.1) (by omega) bb) ?_); rintro _ _ ⟨A2, c2, r2, rfl, rfl, hr2, hl2⟩)
  refine WL.want rfl (WL1.give rfl (g_assign rfl (.mk (v := .slice _ _ _) rfl rfl)) ?_)
  refine WL.want rfl (WL1.give rfl (g_assign rfl (.mk (v := .slice _ _ _) rfl rfl)) ?_)
  refine WL.nil ?_
  (refine hK _ _ ?_; clear hK)
  (refine WC.seq ?_; intro K hK)
  refine WC.region rfl ?_
  refine WL.want rfl (WL1.give rfl (g_move rfl (.mk (v := .slice _ _ _) rfl rfl)) ?_)
  refine WL.want rfl (WL1.give rfl (g_move rfl (.mk (v := .slice _ _ _) rfl rfl)) ?_)
  refine WL.want rfl (WL1.callP rfl rfl rfl (.cons (.mk (v := .slice _ _ _) rfl rfl) (.cons (.mk (v := .slice _ _ _) rfl rfl) .nil)) (fun w hw => mul_bad _ _ r1 r2 w (MatAt.of_rowsA hw (by repeat (first | exact .head _ | apply List.Mem.tail)) (by repeat (first | exact .head _ | apply List.Mem.tail))) (MatAt.of_rowsA hw (by repeat (first | exact .head _ | apply List.Mem.tail)) (by repeat (first | exact .head _ | apply List.Mem.tail))) (fun q => nm ⟨hr1 ▸ q.1, hr2 ▸ q.2.1, by rw [← el0 hr1 (Good.parts (hr1 ▸ q.1)).1, q.2.2, hl2]⟩)) ?_)
  refine WL.want rfl (WL1.give rfl (g_move rfl (.mk (v := .tuple _) rfl rfl)) ?_)
  refine WL.want rfl (WL1.give rfl (g_extract rfl (.mk rfl rfl) rfl) ?_)
  refine WL.want rfl (WL1.give rfl (g_extract rfl (.mk rfl rfl) rfl) ?_)
  refine WL.want rfl (WL1.give rfl (g_assign rfl (.mk (v := .slice _ _ _) rfl rfl)) ?_)
  refine WL.want rfl (WL1.give rfl (g_assign rfl (.mk (v := .int _ _) rfl rfl)) ?_)
  refine WL.nil ?_
  (refine hK _ _ ?_; clear hK)
  (refine WC.seq ?_; intro K hK)
  refine WC.region rfl ?_
  refine WL.want rfl (WL1.give rfl (g_move rfl (.mk (v := .slice _ _ _) rfl rfl)) ?_)
  refine WL.want rfl (WL1.give rfl (g_move rfl (.mk (v := .slice _ _ _) rfl rfl)) ?_)
  refine WL.want rfl (WL1.callP rfl rfl rfl (.cons (.mk (v := .slice _ _ _) rfl rfl) (.cons (.mk (v := .slice _ _ _) rfl rfl) .nil)) (fun w hw => apply_bad _ _ r1 v w (MatAt.of_rowsA hw (by repeat (first | exact .head _ | apply List.Mem.tail)) (by repeat (first | exact .head _ | apply List.Mem.tail))) (hv.below hw.1) (fun q => na ⟨hr1 ▸ q.1, by rw [q.2, el0 hr1 (Good.parts (hr1 ▸ q.1)).1]⟩)) ?_)
  refine WL.want rfl (WL1.give rfl (g_move rfl (.mk (v := .tuple _) rfl rfl)) ?_)
  refine WL.want rfl (WL1.give rfl (g_extract rfl (.mk rfl rfl) rfl) ?_)
  refine WL.want rfl (WL1.give rfl (g_extract rfl (.mk rfl rfl) rfl) ?_)
  refine WL.want rfl (WL1.give rfl (g_assign rfl (.mk (v := .slice _ _ _) rfl rfl)) ?_)
  refine WL.want rfl (WL1.give rfl (g_assign rfl (.mk (v := .int _ _) rfl rfl)) ?_)
  refine WL.nil ?_
  (refine hK _ _ ?_; clear hK)
  (refine WC.seq ?_; intro K hK)
  (refine WC.seq ?_; intro K hK)
  refine WC.region rfl ?_
  refine WL.want rfl (WL1.give rfl (g_move rfl (.mk (v := .slice _ _ _) rfl rfl)) ?_)
  refine WL.want rfl (WL1.give rfl (g_move rfl (.mk (v := .slice _ _ _) rfl rfl)) ?_)
  refine WL.want rfl (WL1.callP rfl rfl rfl (.cons (.mk (v := .slice _ _ _) rfl rfl) (.cons (.mk (v := .slice _ _ _) rfl rfl) .nil)) (fun w hw => msame_t _ _ r1 a w (MatAt.of_rowsA hw (by repeat (first | exact .head _ | apply List.Mem.tail)) (by repeat (first | exact .head _ | apply List.Mem.tail))) (ha.below hw.1) hr1) ?_)
  refine WL.want rfl (WL1.give rfl (g_notT rfl (.mk rfl rfl)) ?_)
  refine WL.want rfl (WL1.give rfl (g_move rfl (.mk (v := .bool _) rfl rfl)) ?_)
  refine WL.wantG rfl rfl rfl rfl (WL1.give rfl (g_move rfl (.mk (v := .slice _ _ _) rfl rfl)) ?_)
  refine WL.wantG rfl rfl rfl rfl (WL1.give rfl (g_move rfl (.mk (v := .slice _ _ _) rfl rfl)) ?_)
  refine WL.wantG rfl rfl rfl rfl (WL1.callP rfl rfl rfl (.cons (.mk (v := .slice _ _ _) rfl rfl) (.cons (.mk (v := .slice _ _ _) rfl rfl) .nil)) (fun w hw => msame_t _ _ r2 b w (MatAt.of_rowsA hw (by repeat (first | exact .head _ | apply List.Mem.tail)) (by repeat (first | exact .head _ | apply List.Mem.tail))) (hb.below hw.1) hr2) ?_)
  refine WL.wantG rfl rfl rfl rfl (WL1.give rfl (g_notT rfl (.mk rfl rfl)) ?_)
  refine WL.want rfl (WL1.give rfl (g_pickF rfl (.mk rfl rfl) (.mk (v := .bool _) rfl rfl)) ?_)
  refine WL.nil ?_
  (refine hK _ _ ?_; clear hK)
  refine WC.cond_false (.mk rfl rfl) ?_
  refine WC.skip ?_
  (refine hK _ _ ?_; clear hK)
  (refine WC.seq ?_; intro K hK)
  (refine WC.seq ?_; intro K hK)
  refine WC.region rfl ?_
  refine WL.want rfl (WL1.give rfl (g_move rfl (.mk (v := .slice _ _ _) rfl rfl)) ?_)
  refine WL.want rfl (WL1.callP rfl rfl rfl (.cons (.mk (v := .slice _ _ _) rfl rfl) .nil) (fun w hw => xa w hw.1) ?_)
  refine WL.want rfl (WL1.give rfl (g_notF rfl (.mk rfl rfl)) ?_)
  refine WL.want rfl (WL1.give rfl (g_move rfl (.mk (v := .bool _) rfl rfl)) ?_)
  refine WL.skipG rfl rfl rfl rfl rfl rfl ?_
  refine WL.skipG rfl rfl rfl rfl rfl rfl ?_
  refine WL.skipG rfl rfl rfl rfl rfl rfl ?_
  refine WL.skipG rfl rfl rfl rfl rfl rfl ?_
  refine WL.skipG rfl rfl rfl rfl rfl rfl ?_
  refine WL.skipG rfl rfl rfl rfl rfl rfl ?_
  refine WL.skipG rfl rfl rfl rfl rfl rfl ?_
  refine WL.want rfl (WL1.give rfl (g_pickT rfl (.mk rfl rfl) (.mk (v := .bool _) rfl rfl)) ?_)
  refine WL.nil ?_
  (refine hK _ _ ?_; clear hK)
  refine WC.cond_true (.mk rfl rfl) ?_
  (refine WC.seq ?_; intro K hK)
  refine WC.region rfl ?_
  refine WL.want rfl (WL1.give rfl (g_move rfl (.mk (v := .int _ _) rfl rfl)) ?_)
  refine WL.want rfl (WL1.give rfl (g_ne rfl (.mk rfl rfl) (.mk rfl rfl) (decide_eq_false (by omega))) ?_)
  refine WL.want rfl (WL1.give rfl (g_move rfl (.mk (v := .bool _) rfl rfl)) ?_)
  refine WL.wantG rfl rfl rfl rfl (WL1.give rfl (g_move rfl (.mk (v := .slice _ _ _) rfl rfl)) ?_)
  refine WL.wantG rfl rfl rfl rfl (WL1.give rfl (g_len rfl (.mk rfl rfl) rfl) ?_)
  refine WL.wantG rfl rfl rfl rfl (WL1.give rfl (g_ne rfl (.mk rfl rfl) (.mk rfl rfl) (decide_eq_false (by omega))) ?_)
  refine WL.want rfl (WL1.give rfl (g_pickF rfl (.mk rfl rfl) (.mk (v := .bool _) rfl rfl)) ?_)
  refine WL.nil ?_
  (refine hK _ _ ?_; clear hK)
  refine WC.cond_false (.mk rfl rfl) ?_
  refine WC.skip ?_
  (refine hK _ _ ?_; clear hK)
  (refine WC.seq ?_; intro K hK)
  (refine WC.seq ?_; intro K hK)
  refine WC.region rfl ?_
  refine WL.want rfl (WL1.give rfl (g_move rfl (.mk (v := .slice _ _ _) rfl rfl)) ?_)
  refine WL.want rfl (WL1.callP rfl rfl rfl (.cons (.mk (v := .slice _ _ _) rfl rfl) .nil) (fun w hw => xa w hw.1) ?_)
  refine WL.want rfl (WL1.give rfl (g_notF rfl (.mk rfl rfl)) ?_)
  refine WL.want rfl (WL1.give rfl (g_move rfl (.mk (v := .bool _) rfl rfl)) ?_)
  refine WL.skipG rfl rfl rfl rfl rfl rfl ?_
  refine WL.skipG rfl rfl rfl rfl rfl rfl ?_
  refine WL.skipG rfl rfl rfl rfl rfl rfl ?_
  refine WL.want rfl (WL1.give rfl (g_pickT rfl (.mk rfl rfl) (.mk (v := .bool _) rfl rfl)) ?_)
  refine WL.want rfl (WL1.give rfl (g_move rfl (.mk (v := .bool _) rfl rfl)) ?_)
  refine WL.skipG rfl rfl rfl rfl rfl rfl ?_
  refine WL.skipG rfl rfl rfl rfl rfl rfl ?_
  refine WL.skipG rfl rfl rfl rfl rfl rfl ?_
  refine WL.skipG rfl rfl rfl rfl rfl rfl ?_
  refine WL.skipG rfl rfl rfl rfl rfl rfl ?_
  refine WL.skipG rfl rfl rfl rfl rfl rfl ?_
  refine WL.skipG rfl rfl rfl rfl rfl rfl ?_
  refine WL.want rfl (WL1.give rfl (g_pickT rfl (.mk rfl rfl) (.mk (v := .bool _) rfl rfl)) ?_)
  refine WL.nil ?_
  (refine hK _ _ ?_; clear hK)
  refine WC.cond_true (.mk rfl rfl) ?_
  (refine WC.seq ?_; intro K hK)
  refine WC.region rfl ?_
  refine WL.want rfl (WL1.give rfl (g_move rfl (.mk (v := .int _ _) rfl rfl)) ?_)
  refine WL.want rfl (WL1.give rfl (g_eq rfl (.mk rfl rfl) (.mk rfl rfl) (decide_eq_true (by omega))) ?_)
  refine WL.want rfl (WL1.give rfl (g_move rfl (.mk (v := .bool _) rfl rfl)) ?_)
  refine WL.wantG rfl rfl rfl rfl (WL1.give rfl (g_move rfl (.mk (v := .slice _ _ _) rfl rfl)) ?_)
  refine WL.wantG rfl rfl rfl rfl (WL1.give rfl (g_len rfl (.mk rfl rfl) rfl) ?_)
  refine WL.wantG rfl rfl rfl rfl (WL1.give rfl (g_eq rfl (.mk rfl rfl) (.mk rfl rfl) (decide_eq_true (by omega))) ?_)
  refine WL.want rfl (WL1.give rfl (g_pickT rfl (.mk rfl rfl) (.mk (v := .bool _) rfl rfl)) ?_)
  refine WL.want rfl (WL1.give rfl (g_assign rfl (.mk (v := .bool _) rfl rfl)) ?_)
  refine WL.nil ?_
  (refine hK _ _ ?_; clear hK)
  refine WC.ret ?_
  exact fun w' hw' => ⟨rfl, hw'.1⟩
set_option maxRecDepth 20000 in
set_option maxHeartbeats 2000000 in
theorem s0N (w : World) (A B X : Option Addr) (c d x : Nat) (a b : List Row) (v : List G) (ha : MatAt w (.slice A a.length c) a) (hb : MatAt w (.slice B b.length d) b) (hv : Sl w 1 (.slice X v.length x) v.length (bvs v)) (h1 : Small8 a) (h2 : Small8 b) (h3 : v.length ≤ 10) (ga : Good (els a)) (hv2 : v.length ≠ (nth a 0).l.length) (gb : ¬ Good (els b)) :
    Calls Try.prog 8 #[.slice A a.length c, .slice B b.length d, .slice X v.length x] w fun en w' => en = .returned (.bool true) ∧ Below w.heap.size w w' := by
  have hs := ha.1
  have sa := fun w' hb => small_e _ a w' (ha.below (w' := w') hb)
  have sb := fun w' hc => small_e _ b w' (hb.below (w' := w') hc)
  rw [decide_eq_true h1] at sa
  rw [decide_eq_true h2] at sb
  have al := h1.1
  have bl := h2.1
  have ba : ∀ i, i < a.length → (nth a i).l.length ≤ 1000 := fun i hi => Nat.le_trans (h1.2 i hi) (by omega)
  have bb : ∀ i, i < b.length → (nth b i).l.length ≤ 1000 := fun i hi => Nat.le_trans (h2.2 i hi) (by omega)
  have xa := fun w' hb => rvalid_e _ a w' (ha.below (w' := w') hb)
  have xb := fun w' hc => rvalid_e _ b w' (hb.below (w' := w') hc)
  rw [goodB_iff.2 ga] at xa
  have gp := ga.parts
  have na : ¬ (Good (els a) ∧ v.length = (nth a 0).l.length) := fun q => hv2 q.2
  rw [goodB_no gb] at xb
  have nm : ¬ (Good (els a) ∧ Good (els b) ∧ (nth a 0).l.length = b.length) := fun q => gb q.2.1
  refine calls_wc (args := [.slice A a.length c, .slice B b.length d, .slice X v.length x]) [6] [] Try.func8 rfl Try.ntmps8 rfl rfl rfl rfl (H.refl w) ?_
  (refine WC.seq ?_; intro K hK)
  refine WC.region rfl ?_
  refine WL.want rfl (WL1.give rfl (g_assign rfl (.mk (v := .bool _) rfl rfl)) ?_)
  refine WL.nil ?_
  (refine hK _ _ ?_; clear hK)
  (refine WC.seq ?_; intro K hK)
  (refine WC.seq ?_; intro K hK)
  refine WC.region rfl ?_
  refine WL.want rfl (WL1.callP rfl rfl rfl .nil (fun w hw => awake_e w) ?_)
  refine WL.want rfl (WL1.give rfl (g_notT rfl (.mk rfl rfl)) ?_)
  refine WL.nil ?_
  (refine hK _ _ ?_; clear hK)
  refine WC.cond_false (.mk rfl rfl) ?_
  refine WC.skip ?_
  (refine hK _ _ ?_; clear hK)
  (refine WC.seq ?_; intro K hK)
  (refine WC.seq ?_; intro K hK)
  refine WC.region rfl ?_
  refine WL.want rfl (WL1.give rfl (g_move rfl (.mk (v := .slice _ _ _) rfl rfl)) ?_)
  refine WL.want rfl (WL1.callP rfl rfl rfl (.cons (.mk (v := .slice _ _ _) rfl rfl) .nil) (fun w hw => sa w hw.1) ?_)
  refine WL.want rfl (WL1.give rfl (g_notT rfl (.mk rfl rfl)) ?_)
  refine WL.want rfl (WL1.give rfl (g_move rfl (.mk (v := .bool _) rfl rfl)) ?_)
  refine WL.wantG rfl rfl rfl rfl (WL1.give rfl (g_move rfl (.mk (v := .slice _ _ _) rfl rfl)) ?_)
  refine WL.wantG rfl rfl rfl rfl (WL1.callP rfl rfl rfl (.cons (.mk (v := .slice _ _ _) rfl rfl) .nil) (fun w hw => sb w hw.1) ?_)
  refine WL.wantG rfl rfl rfl rfl (WL1.give rfl (g_notT rfl (.mk rfl rfl)) ?_)
  refine WL.want rfl (WL1.give rfl (g_pickF rfl (.mk rfl rfl) (.mk (v := .bool _) rfl rfl)) ?_)
  refine WL.want rfl (WL1.give rfl (g_move rfl (.mk (v := .bool _) rfl rfl)) ?_)
  refine WL.wantG rfl rfl rfl rfl (WL1.give rfl (g_move rfl (.mk (v := .slice _ _ _) rfl rfl)) ?_)
  refine WL.wantG rfl rfl rfl rfl (WL1.give rfl (g_len rfl (.mk rfl rfl) rfl) ?_)
  refine WL.wantG rfl rfl rfl rfl (WL1.give rfl (g_gt rfl (.mk rfl rfl) (.mk rfl rfl) (decide_eq_false (by omega))) ?_)
  refine WL.want rfl (WL1.give rfl (g_pickF rfl (.mk rfl rfl) (.mk (v := .bool _) rfl rfl)) ?_)
  refine WL.nil ?_
  (refine hK _ _ ?_; clear hK)
  refine WC.cond_false (.mk rfl rfl) ?_
  refine WC.skip ?_
  (refine hK _ _ ?_; clear hK)
  (refine WC.seq ?_; intro K hK)
  refine WC.region rfl ?_
  refine WL.want rfl (WL1.give rfl (g_move rfl (.mk (v := .slice _ _ _) rfl rfl)) ?_)
  (refine WL.want rfl (WL1.callN rfl rfl rfl (.cons (.mk (v := .slice _ _ _) rfl rfl) .nil) (fun w hw => copied_n _ a w (ha.below hw.1) (by omega) ba) ?_); rintro _ _ ⟨A1, c1, r1, rfl, rfl, hr1, hl1⟩)
  refine WL.want rfl (WL1.give rfl (g_move rfl (.mk (v := .slice _ _ _) rfl rfl)) ?_)
  (refine WL.want rfl (WL1.callN rfl rfl rfl (.cons (.mk (v := .slice _ _ _) rfl rfl) .nil) (fun w hw => copied_n _ b w (hb.below hw.1) (by omega) bb) ?_); rintro _ _ ⟨A2, c2, r2, rfl, rfl, hr2, hl2⟩)
  refine WL.want rfl (WL1.give rfl (g_assign rfl (.mk (v := .slice _ _ _) rfl rfl)) ?_)
  refine WL.want rfl (WL1.give rfl (g_assign rfl (.mk (v := .slice _ _ _) rfl rfl)) ?_)
  refine WL.nil ?_
  (refine hK _ _ ?_; clear hK)
  (refine WC.seq ?_; intro K hK)
  refine WC.region rfl ?_
  refine WL.want rfl (WL1.give rfl (g_move rfl (.mk (v := .slice _ _ _) rfl rfl)) ?_)
  refine WL.want rfl (WL1.give rfl (g_move rfl (.mk (v := .slice _ _ _) rfl rfl)) ?_)
  refine WL.want rfl (WL1.callP rfl rfl rfl (.cons (.mk (v := .slice _ _ _) rfl rfl) (.cons (.mk (v := .slice _ _ _) rfl rfl) .nil)) (fun w hw => mul_bad _ _ r1 r2 w (MatAt.of_rowsA hw (by repeat (first | exact .head _ | apply List.Mem.tail)) (by repeat (first | exact .head _ | apply List.Mem.tail))) (MatAt.of_rowsA hw (by repeat (first | exact .head _ | apply List.Mem.tail)) (by repeat (first | exact .head _ | apply List.Mem.tail))) (fun q => nm ⟨hr1 ▸ q.1, hr2 ▸ q.2.1, by rw [← el0 hr1 (Good.parts (hr1 ▸ q.1)).1, q.2.2, hl2]⟩)) ?_)
  refine WL.want rfl (WL1.give rfl (g_move rfl (.mk (v := .tuple _) rfl rfl)) ?_)
  refine WL.want rfl (WL1.give rfl (g_extract rfl (.mk rfl rfl) rfl) ?_)
  refine WL.want rfl (WL1.give rfl (g_extract rfl (.mk rfl rfl) rfl) ?_)
  refine WL.want rfl (WL1.give rfl (g_assign rfl (.mk (v := .slice _ _ _) rfl rfl)) ?_)
  refine WL.want rfl (WL1.give rfl (g_assign rfl (.mk (v := .int _ _) rfl rfl)) ?_)
  refine WL.nil ?_
  (refine hK _ _ ?_; clear hK)
  (refine WC.seq ?_; intro K hK)
  refine WC.region rfl ?_
  refine WL.want rfl (WL1.give rfl (g_move rfl (.mk (v := .slice _ _ _) rfl rfl)) ?_)
  refine WL.want rfl (WL1.give rfl (g_move rfl (.mk (v := .slice _ _ _) rfl rfl)) ?_)
  refine WL.want rfl (WL1.callP rfl rfl rfl (.cons (.mk (v := .slice _ _ _) rfl rfl) (.cons (.mk (v := .slice _ _ _) rfl rfl) .nil)) (fun w hw => apply_bad _ _ r1 v w (MatAt.of_rowsA hw (by repeat (first | exact .head _ | apply List.Mem.tail)) (by repeat (first | exact .head _ | apply List.Mem.tail))) (hv.below hw.1) (fun q => na ⟨hr1 ▸ q.1, by rw [q.2, el0 hr1 (Good.parts (hr1 ▸ q.1)).1]⟩)) ?_)
  refine WL.want rfl (WL1.give rfl (g_move rfl (.mk (v := .tuple _) rfl rfl)) ?_)
  refine WL.want rfl (WL1.give rfl (g_extract rfl (.mk rfl rfl) rfl) ?_)
  refine WL.want rfl (WL1.give rfl (g_extract rfl (.mk rfl rfl) rfl) ?_)
  refine WL.want rfl (WL1.give rfl (g_assign rfl (.mk (v := .slice _ _ _) rfl rfl)) ?_)
  refine WL.want rfl (WL1.give rfl (g_assign rfl (.mk (v := .int _ _) rfl rfl)) ?_)
  refine WL.nil ?_
  (refine hK _ _ ?_; clear hK)
  (refine WC.seq ?_; intro K hK)
  (refine WC.seq ?_; intro K hK)
  refine WC.region rfl ?_
  refine WL.want rfl (WL1.give rfl (g_move rfl (.mk (v := .slice _ _ _) rfl rfl)) ?_)
  refine WL.want rfl (WL1.give rfl (g_move rfl (.mk (v := .slice _ _ _) rfl rfl)) ?_)
  refine WL.want rfl (WL1.callP rfl rfl rfl (.cons (.mk (v := .slice _ _ _) rfl rfl) (.cons (.mk (v := .slice _ _ _) rfl rfl) .nil)) (fun w hw => msame_t _ _ r1 a w (MatAt.of_rowsA hw (by repeat (first | exact .head _ | apply List.Mem.tail)) (by repeat (first | exact .head _ | apply List.Mem.tail))) (ha.below hw.1) hr1) ?_)
  refine WL.want rfl (WL1.give rfl (g_notT rfl (.mk rfl rfl)) ?_)
  refine WL.want rfl (WL1.give rfl (g_move rfl (.mk (v := .bool _) rfl rfl)) ?_)
  refine WL.wantG rfl rfl rfl rfl (WL1.give rfl (g_move rfl (.mk (v := .slice _ _ _) rfl rfl)) ?_)
  refine WL.wantG rfl rfl rfl rfl (WL1.give rfl (g_move rfl (.mk (v := .slice _ _ _) rfl rfl)) ?_)
  refine WL.wantG rfl rfl rfl rfl (WL1.callP rfl rfl rfl (.cons (.mk (v := .slice _ _ _) rfl rfl) (.cons (.mk (v := .slice _ _ _) rfl rfl) .nil)) (fun w hw => msame_t _ _ r2 b w (MatAt.of_rowsA hw (by repeat (first | exact .head _ | apply List.Mem.tail)) (by repeat (first | exact .head _ | apply List.Mem.tail))) (hb.below hw.1) hr2) ?_)
  refine WL.wantG rfl rfl rfl rfl (WL1.give rfl (g_notT rfl (.mk rfl rfl)) ?_)
  refine WL.want rfl (WL1.give rfl (g_pickF rfl (.mk rfl rfl) (.mk (v := .bool _) rfl rfl)) ?_)
  refine WL.nil ?_
  (refine hK _ _ ?_; clear hK)
  refine WC.cond_false (.mk rfl rfl) ?_
  refine WC.skip ?_
  (refine hK _ _ ?_; clear hK)
  (refine WC.seq ?_; intro K hK)
  (refine WC.seq ?_; intro K hK)
  refine WC.region rfl ?_
  refine WL.want rfl (WL1.give rfl (g_move rfl (.mk (v := .slice _ _ _) rfl rfl)) ?_)
  refine WL.want rfl (WL1.callP rfl rfl rfl (.cons (.mk (v := .slice _ _ _) rfl rfl) .nil) (fun w hw => xa w hw.1) ?_)
  refine WL.want rfl (WL1.give rfl (g_notT rfl (.mk rfl rfl)) ?_)
  refine WL.want rfl (WL1.give rfl (g_move rfl (.mk (v := .bool _) rfl rfl)) ?_)
  refine WL.wantG rfl rfl rfl rfl (WL1.give rfl (g_move rfl (.mk (v := .slice _ _ _) rfl rfl)) ?_)
  refine WL.wantG rfl rfl rfl rfl (WL1.give rfl (g_len rfl (.mk rfl rfl) rfl) ?_)
  refine WL.wantG rfl rfl rfl rfl (WL1.give rfl (g_move rfl (.mk (v := .slice _ _ _) rfl rfl)) ?_)
  refine WL.wantG rfl rfl rfl rfl (WL1.give rfl (g_indexAddr (sz := 1) rfl (.mk rfl rfl) (.mk rfl rfl) rfl rfl (show _ = ((0 : Nat) : Int) from rfl) (by omega) (fun _ _ => sl_some hs (by omega))) ?_)
  refine WL.wantG rfl rfl rfl rfl (WL1.give rfl (g_load rfl (.mk rfl rfl) rfl (rd_sl hs (get1 (by omega)))) ?_)
  refine WL.wantG rfl rfl rfl rfl (WL1.give rfl (g_len rfl (.mk rfl rfl) rfl) ?_)
  refine WL.wantG rfl rfl rfl rfl (WL1.give rfl (g_ne rfl (.mk rfl rfl) (.mk rfl rfl) (decide_eq_true (by omega))) ?_)
  refine WL.want rfl (WL1.give rfl (g_pickF rfl (.mk rfl rfl) (.mk (v := .bool _) rfl rfl)) ?_)
  refine WL.nil ?_
  (refine hK _ _ ?_; clear hK)
  refine WC.cond_true (.mk rfl rfl) ?_
  (refine WC.seq ?_; intro K hK)
  refine WC.region rfl ?_
  refine WL.want rfl (WL1.give rfl (g_move rfl (.mk (v := .int _ _) rfl rfl)) ?_)
  refine WL.want rfl (WL1.give rfl (g_ne rfl (.mk rfl rfl) (.mk rfl rfl) (decide_eq_false (by omega))) ?_)
  refine WL.want rfl (WL1.give rfl (g_move rfl (.mk (v := .bool _) rfl rfl)) ?_)
  refine WL.wantG rfl rfl rfl rfl (WL1.give rfl (g_move rfl (.mk (v := .slice _ _ _) rfl rfl)) ?_)
  refine WL.wantG rfl rfl rfl rfl (WL1.give rfl (g_len rfl (.mk rfl rfl) rfl) ?_)
  refine WL.wantG rfl rfl rfl rfl (WL1.give rfl (g_ne rfl (.mk rfl rfl) (.mk rfl rfl) (decide_eq_false (by omega))) ?_)
  refine WL.want rfl (WL1.give rfl (g_pickF rfl (.mk rfl rfl) (.mk (v := .bool _) rfl rfl)) ?_)
  refine WL.nil ?_
  (refine hK _ _ ?_; clear hK)
  refine WC.cond_false (.mk rfl rfl) ?_
  refine WC.skip ?_
  (refine hK _ _ ?_; clear hK)
  (refine WC.seq ?_; intro K hK)
  (refine WC.seq ?_; intro K hK)
  refine WC.region rfl ?_
  refine WL.want rfl (WL1.give rfl (g_move rfl (.mk (v := .slice _ _ _) rfl rfl)) ?_)
  refine WL.want rfl (WL1.callP rfl rfl rfl (.cons (.mk (v := .slice _ _ _) rfl rfl) .nil) (fun w hw => xa w hw.1) ?_)
  refine WL.want rfl (WL1.give rfl (g_notT rfl (.mk rfl rfl)) ?_)
  refine WL.want rfl (WL1.give rfl (g_move rfl (.mk (v := .bool _) rfl rfl)) ?_)
  refine WL.wantG rfl rfl rfl rfl (WL1.give rfl (g_move rfl (.mk (v := .slice _ _ _) rfl rfl)) ?_)
  refine WL.wantG rfl rfl rfl rfl (WL1.callP rfl rfl rfl (.cons (.mk (v := .slice _ _ _) rfl rfl) .nil) (fun w hw => xb w hw.1) ?_)
  refine WL.wantG rfl rfl rfl rfl (WL1.give rfl (g_notF rfl (.mk rfl rfl)) ?_)
  refine WL.want rfl (WL1.give rfl (g_pickF rfl (.mk rfl rfl) (.mk (v := .bool _) rfl rfl)) ?_)
  refine WL.want rfl (WL1.give rfl (g_move rfl (.mk (v := .bool _) rfl rfl)) ?_)
  refine WL.skipG rfl rfl rfl rfl rfl rfl ?_
  refine WL.skipG rfl rfl rfl rfl rfl rfl ?_
  refine WL.skipG rfl rfl rfl rfl rfl rfl ?_
  refine WL.skipG rfl rfl rfl rfl rfl rfl ?_
  refine WL.skipG rfl rfl rfl rfl rfl rfl ?_
  refine WL.skipG rfl rfl rfl rfl rfl rfl ?_
  refine WL.skipG rfl rfl rfl rfl rfl rfl ?_
  refine WL.want rfl (WL1.give rfl (g_pickT rfl (.mk rfl rfl) (.mk (v := .bool _) rfl rfl)) ?_)
  refine WL.nil ?_
  (refine hK _ _ ?_; clear hK)
  refine WC.cond_true (.mk rfl rfl) ?_
  (refine WC.seq ?_; intro K hK)
  refine WC.region rfl ?_
  refine WL.want rfl (WL1.give rfl (g_move rfl (.mk (v := .int _ _) rfl rfl)) ?_)
  refine WL.want rfl (WL1.give rfl (g_eq rfl (.mk rfl rfl) (.mk rfl rfl) (decide_eq_true (by omega))) ?_)
  refine WL.want rfl (WL1.give rfl (g_move rfl (.mk (v := .bool _) rfl rfl)) ?_)
  refine WL.wantG rfl rfl rfl rfl (WL1.give rfl (g_move rfl (.mk (v := .slice _ _ _) rfl rfl)) ?_)
  refine WL.wantG rfl rfl rfl rfl (WL1.give rfl (g_len rfl (.mk rfl rfl) rfl) ?_)
  refine WL.wantG rfl rfl rfl rfl (WL1.give rfl (g_eq rfl (.mk rfl rfl) (.mk rfl rfl) (decide_eq_true (by omega))) ?_)
  refine WL.want rfl (WL1.give rfl (g_pickT rfl (.mk rfl rfl) (.mk (v := .bool _) rfl rfl)) ?_)
  refine WL.want rfl (WL1.give rfl (g_assign rfl (.mk (v := .bool _) rfl rfl)) ?_)
  refine WL.nil ?_
  (refine hK _ _ ?_; clear hK)
  refine WC.ret ?_
  exact fun w' hw' => ⟨rfl, hw'.1⟩
set_option maxRecDepth 20000 in
set_option maxHeartbeats 2000000 in
theorem s0D (w : World) (A B X : Option Addr) (c d x : Nat) (a b : List Row) (v : List G) (ha : MatAt w (.slice A a.length c) a) (hb : MatAt w (.slice B b.length d) b) (hv : Sl w 1 (.slice X v.length x) v.length (bvs v)) (h1 : Small8 a) (h2 : Small8 b) (h3 : v.length ≤ 10) (ga : Good (els a)) (hv2 : v.length ≠ (nth a 0).l.length) (gb : Good (els b)) (hm2 : (nth a 0).l.length ≠ b.length) :
    Calls Try.prog 8 #[.slice A a.length c, .slice B b.length d, .slice X v.length x] w fun en w' => en = .returned (.bool true) ∧ Below w.heap.size w w' := by
  have hs := ha.1
  have sa := fun w' hb => small_e _ a w' (ha.below (w' := w') hb)
  have sb := fun w' hc => small_e _ b w' (hb.below (w' := w') hc)
  rw [decide_eq_true h1] at sa
  rw [decide_eq_true h2] at sb
  have al := h1.1
  have bl := h2.1
  have ba : ∀ i, i < a.length → (nth a i).l.length ≤ 1000 := fun i hi => Nat.le_trans (h1.2 i hi) (by omega)
  have bb : ∀ i, i < b.length → (nth b i).l.length ≤ 1000 := fun i hi => Nat.le_trans (h2.2 i hi) (by omega)
  have xa := fun w' hb => rvalid_e _ a w' (ha.below (w' := w') hb)
  have xb := fun w' hc => rvalid_e _ b w' (hb.below (w' := w') hc)
  rw [goodB_iff.2 ga] at xa
  have gp := ga.parts
  have na : ¬ (Good (els a) ∧ v.length = (nth a 0).l.length) := fun q => hv2 q.2
  rw [goodB_iff.2 gb] at xb
  have nm : ¬ (Good (els a) ∧ Good (els b) ∧ (nth a 0).l.length = b.length) := fun q => hm2 q.2.2
  refine calls_wc (args := [.slice A a.length c, .slice B b.length d, .slice X v.length x]) [6] [] Try.func8 rfl Try.ntmps8 rfl rfl rfl rfl (H.refl w) ?_
  (refine WC.seq ?_; intro K hK)
  refine WC.region rfl ?_
  refine WL.want rfl (WL1.give rfl (g_assign rfl (.mk (v := .bool _) rfl rfl)) ?_)
  refine WL.nil ?_
  (refine hK _ _ ?_; clear hK)
  (refine WC.seq ?_; intro K hK)
  (refine WC.seq ?_; intro K hK)
  refine WC.region rfl ?_
  refine WL.want rfl (WL1.callP rfl rfl rfl .nil (fun w hw => awake_e w) ?_)
  refine WL.want rfl (WL1.give rfl (g_notT rfl (.mk rfl rfl)) ?_)
  refine WL.nil ?_
  (refine hK _ _ ?_; clear hK)
  refine WC.cond_false (.mk rfl rfl) ?_
  refine WC.skip ?_
  (refine hK _ _ ?_; clear hK)
  (refine WC.seq ?_; intro K hK)
  (refine WC.seq ?_; intro K hK)
  refine WC.region rfl ?_
  refine WL.want rfl (WL1.give rfl (g_move rfl (.mk (v := .slice _ _ _) rfl rfl)) ?_)
  refine WL.want rfl (WL1.callP rfl rfl rfl (.cons (.mk (v := .slice _ _ _) rfl rfl) .nil) (fun w hw => sa w hw.1) ?_)
  refine WL.want rfl (WL1.give rfl (g_notT rfl (.mk rfl rfl)) ?_)
  refine WL.want rfl (WL1.give rfl (g_move rfl (.mk (v := .bool _) rfl rfl)) ?_)
  refine WL.wantG rfl rfl rfl rfl (WL1.give rfl (g_move rfl (.mk (v := .slice _ _ _) rfl rfl)) ?_)
  refine WL.wantG rfl rfl rfl rfl (WL1.callP rfl rfl rfl (.cons (.mk (v := .slice _ _ _) rfl rfl) .nil) (fun w hw => sb w hw.1) ?_)
  refine WL.wantG rfl rfl rfl rfl (WL1.give rfl (g_notT rfl (.mk rfl rfl)) ?_)
  refine WL.want rfl (WL1.give rfl (g_pickF rfl (.mk rfl rfl) (.mk (v := .bool _) rfl rfl)) ?_)
  refine WL.want rfl (WL1.give rfl (g_move rfl (.mk (v := .bool _) rfl rfl)) ?_)
  refine WL.wantG rfl rfl rfl rfl (WL1.give rfl (g_move rfl (.mk (v := .slice _ _ _) rfl rfl)) ?_)
  refine WL.wantG rfl rfl rfl rfl (WL1.give rfl (g_len rfl (.mk rfl rfl) rfl) ?_)
  refine WL.wantG rfl rfl rfl rfl (WL1.give rfl (g_gt rfl (.mk rfl rfl) (.mk rfl rfl) (decide_eq_false (by omega))) ?_)
  refine WL.want rfl (WL1.give rfl (g_pickF rfl (.mk rfl rfl) (.mk (v := .bool _) rfl rfl)) ?_)
  refine WL.nil ?_
  (refine hK _ _ ?_; clear hK)
  refine WC.cond_false (.mk rfl rfl) ?_
  refine WC.skip ?_
  (refine hK _ _ ?_; clear hK)
  (refine WC.seq ?_; intro K hK)
  refine WC.region rfl ?_
  refine WL.want rfl (WL1.give rfl (g_move rfl (.mk (v := .slice _ _ _) rfl rfl)) ?_)
  (refine WL.want rfl (WL1.callN rfl rfl rfl (.cons (.mk (v := .slice _ _ _) rfl rfl) .nil) (fun w hw => copied_n _ a w (ha.below hw.1) (by omega) ba) ?_); rintro _ _ ⟨A1, c1, r1, rfl, rfl, hr1, hl1⟩)
  refine WL.want rfl (WL1.give rfl (g_move rfl (.mk (v := .slice _ _ _) rfl rfl)) ?_)
  (refine WL.want rfl (WL1.callN rfl rfl rfl (.cons (.mk (v := .slice _ _ _) rfl rfl) .nil) (fun w hw => copied_n _ b w (hb.below hw.1) (by omega) bb) ?_); rintro _ _ ⟨A2, c2, r2, rfl, rfl, hr2, hl2⟩)
  refine WL.want rfl (WL1.give rfl (g_assign rfl (.mk (v := .slice _ _ _) rfl rfl)) ?_)
  refine WL.want rfl (WL1.give rfl (g_assign rfl (.mk (v := .slice _ _ _) rfl rfl)) ?_)
  refine WL.nil ?_
  (refine hK _ _ ?_; clear hK)
  (refine WC.seq ?_; intro K hK)
  refine WC.region rfl ?_
  refine WL.want rfl (WL1.give rfl (g_move rfl (.mk (v := .slice _ _ _) rfl rfl)) ?_)
  refine WL.want rfl (WL1.give rfl (g_move rfl (.mk (v := .slice _ _ _) rfl rfl)) ?_)
  refine WL.want rfl (WL1.callP rfl rfl rfl (.cons (.mk (v := .slice _ _ _) rfl rfl) (.cons (.mk (v := .slice _ _ _) rfl rfl) .nil)) (fun w hw => mul_bad _ _ r1 r2 w (MatAt.of_rowsA hw (by repeat (first | exact .head _ | apply List.Mem.tail)) (by repeat (first | exact .head _ | apply List.Mem.tail))) (MatAt.of_rowsA hw (by repeat (first | exact .head _ | apply List.Mem.tail)) (by repeat (first | exact .head _ | apply List.Mem.tail))) (fun q => nm ⟨hr1 ▸ q.1, hr2 ▸ q.2.1, by rw [← el0 hr1 (Good.parts (hr1 ▸ q.1)).1, q.2.2, hl2]⟩)) ?_)
  refine WL.want rfl (WL1.give rfl (g_move rfl (.mk (v := .tuple _) rfl rfl)) ?_)
  refine WL.want rfl (WL1.give rfl (g_extract rfl (.mk rfl rfl) rfl) ?_)
  refine WL.want rfl (WL1.give rfl (g_extract rfl (.mk rfl rfl) rfl) ?_)
  refine WL.want rfl (WL1.give rfl (g_assign rfl (.mk (v := .slice _ _ _) rfl rfl)) ?_)
  refine WL.want rfl (WL1.give rfl (g_assign rfl (.mk (v := .int _ _) rfl rfl)) ?_)
  refine WL.nil ?_
  (refine hK _ _ ?_; clear hK)
  (refine WC.seq ?_; intro K hK)
  refine WC.region rfl ?_
  refine WL.want rfl (WL1.give rfl (g_move rfl (.mk (v := .slice _ _ _) rfl rfl)) ?_)
  refine WL.want rfl (WL1.give rfl (g_move rfl (.mk (v := .slice _ _ _) rfl rfl)) ?_)
  refine WL.want rfl (WL1.callP rfl rfl rfl (.cons (.mk (v := .slice _ _ _) rfl rfl) (.cons (.mk (v := .slice _ _ _) rfl rfl) .nil)) (fun w hw => apply_bad _ _ r1 v w (MatAt.of_rowsA hw (by repeat (first | exact .head _ | apply List.Mem.tail)) (by repeat (first | exact .head _ | apply List.Mem.tail))) (hv.below hw.1) (fun q => na ⟨hr1 ▸ q.1, by rw [q.2, el0 hr1 (Good.parts (hr1 ▸ q.1)).1]⟩)) ?_)
  refine WL.want rfl (WL1.give rfl (g_move rfl (.mk (v := .tuple _) rfl rfl)) ?_)
  refine WL.want rfl (WL1.give rfl (g_extract rfl (.mk rfl rfl) rfl) ?_)
  refine WL.want rfl (WL1.give rfl (g_extract rfl (.mk rfl rfl) rfl) ?_)
  refine WL.want rfl (WL1.give rfl (g_assign rfl (.mk (v := .slice _ _ _) rfl rfl)) ?_)
  refine WL.want rfl (WL1.give rfl (g_assign rfl (.mk (v := .int _ _) rfl rfl)) ?_)
  refine WL.nil ?_
  (refine hK _ _ ?_; clear hK)
  (refine WC.seq ?_; intro K hK)
  (refine WC.seq ?_; intro K hK)
  refine WC.region rfl ?_
  refine WL.want rfl (WL1.give rfl (g_move rfl (.mk (v := .slice _ _ _) rfl rfl)) ?_)
  refine WL.want rfl (WL1.give rfl (g_move rfl (.mk (v := .slice _ _ _) rfl rfl)) ?_)
  refine WL.want rfl (WL1.callP rfl rfl rfl (.cons (.mk (v := .slice _ _ _) rfl rfl) (.cons (.mk (v := .slice _ _ _) rfl rfl) .nil)) (fun w hw => msame_t _ _ r1 a w (MatAt.of_rowsA hw (by repeat (first | exact .head _ | apply List.Mem.tail)) (by repeat (first | exact .head _ | apply List.Mem.tail))) (ha.below hw.1) hr1) ?_)
  refine WL.want rfl (WL1.give rfl (g_notT rfl (.mk rfl rfl)) ?_)
  refine WL.want rfl (WL1.give rfl (g_move rfl (.mk (v := .bool _) rfl rfl)) ?_)
  refine WL.wantG rfl rfl rfl rfl (WL1.give rfl (g_move rfl (.mk (v := .slice _ _ _) rfl rfl)) ?_)
  refine WL.wantG rfl rfl rfl rfl (WL1.give rfl (g_move rfl (.mk (v := .slice _ _ _) rfl rfl)) ?_)
  refine WL.wantG rfl rfl rfl rfl (WL1.callP rfl rfl rfl (.cons (.mk (v := .slice _ _ _) rfl rfl) (.cons (.mk (v := .slice _ _ _) rfl rfl) .nil)) (fun w hw => msame_t _ _ r2 b w (MatAt.of_rowsA hw (by repeat (first | exact .head _ | apply List.Mem.tail)) (by repeat (first | exact .head _ | apply List.Mem.tail))) (hb.below hw.1) hr2) ?_)
  refine WL.wantG rfl rfl rfl rfl (WL1.give rfl (g_notT rfl (.mk rfl rfl)) ?_)
  refine WL.want rfl (WL1.give rfl (g_pickF rfl (.mk rfl rfl) (.mk (v := .bool _) rfl rfl)) ?_)
  refine WL.nil ?_
  (refine hK _ _ ?_; clear hK)
  refine WC.cond_false (.mk rfl rfl) ?_
  refine WC.skip ?_
  (refine hK _ _ ?_; clear hK)
  (refine WC.seq ?_; intro K hK)
  (refine WC.seq ?_; intro K hK)
  refine WC.region rfl ?_
  refine WL.want rfl (WL1.give rfl (g_move rfl (.mk (v := .slice _ _ _) rfl rfl)) ?_)
  refine WL.want rfl (WL1.callP rfl rfl rfl (.cons (.mk (v := .slice _ _ _) rfl rfl) .nil) (fun w hw => xa w hw.1) ?_)
  refine WL.want rfl (WL1.give rfl (g_notT rfl (.mk rfl rfl)) ?_)
  refine WL.want rfl (WL1.give rfl (g_move rfl (.mk (v := .bool _) rfl rfl)) ?_)
  refine WL.wantG rfl rfl rfl rfl (WL1.give rfl (g_move rfl (.mk (v := .slice _ _ _) rfl rfl)) ?_)
  refine WL.wantG rfl rfl rfl rfl (WL1.give rfl (g_len rfl (.mk rfl rfl) rfl) ?_)
  refine WL.wantG rfl rfl rfl rfl (WL1.give rfl (g_move rfl (.mk (v := .slice _ _ _) rfl rfl)) ?_)
  refine WL.wantG rfl rfl rfl rfl (WL1.give rfl (g_indexAddr (sz := 1) rfl (.mk rfl rfl) (.mk rfl rfl) rfl rfl (show _ = ((0 : Nat) : Int) from rfl) (by omega) (fun _ _ => sl_some hs (by omega))) ?_)
  refine WL.wantG rfl rfl rfl rfl (WL1.give rfl (g_load rfl (.mk rfl rfl) rfl (rd_sl hs (get1 (by omega)))) ?_)
  refine WL.wantG rfl rfl rfl rfl (WL1.give rfl (g_len rfl (.mk rfl rfl) rfl) ?_)
  refine WL.wantG rfl rfl rfl rfl (WL1.give rfl (g_ne rfl (.mk rfl rfl) (.mk rfl rfl) (decide_eq_true (by omega))) ?_)
  refine WL.want rfl (WL1.give rfl (g_pickF rfl (.mk rfl rfl) (.mk (v := .bool _) rfl rfl)) ?_)
  refine WL.nil ?_
  (refine hK _ _ ?_; clear hK)
  refine WC.cond_true (.mk rfl rfl) ?_
  (refine WC.seq ?_; intro K hK)
  refine WC.region rfl ?_
  refine WL.want rfl (WL1.give rfl (g_move rfl (.mk (v := .int _ _) rfl rfl)) ?_)
  refine WL.want rfl (WL1.give rfl (g_ne rfl (.mk rfl rfl) (.mk rfl rfl) (decide_eq_false (by omega))) ?_)
  refine WL.want rfl (WL1.give rfl (g_move rfl (.mk (v := .bool _) rfl rfl)) ?_)
  refine WL.wantG rfl rfl rfl rfl (WL1.give rfl (g_move rfl (.mk (v := .slice _ _ _) rfl rfl)) ?_)
  refine WL.wantG rfl rfl rfl rfl (WL1.give rfl (g_len rfl (.mk rfl rfl) rfl) ?_)
  refine WL.wantG rfl rfl rfl rfl (WL1.give rfl (g_ne rfl (.mk rfl rfl) (.mk rfl rfl) (decide_eq_false (by omega))) ?_)
  refine WL.want rfl (WL1.give rfl (g_pickF rfl (.mk rfl rfl) (.mk (v := .bool _) rfl rfl)) ?_)
  refine WL.nil ?_
  (refine hK _ _ ?_; clear hK)
  refine WC.cond_false (.mk rfl rfl) ?_
  refine WC.skip ?_
  (refine hK _ _ ?_; clear hK)
  (refine WC.seq ?_; intro K hK)
  (refine WC.seq ?_; intro K hK)
  refine WC.region rfl ?_
  refine WL.want rfl (WL1.give rfl (g_move rfl (.mk (v := .slice _ _ _) rfl rfl)) ?_)
  refine WL.want rfl (WL1.callP rfl rfl rfl (.cons (.mk (v := .slice _ _ _) rfl rfl) .nil) (fun w hw => xa w hw.1) ?_)
  refine WL.want rfl (WL1.give rfl (g_notT rfl (.mk rfl rfl)) ?_)
  refine WL.want rfl (WL1.give rfl (g_move rfl (.mk (v := .bool _) rfl rfl)) ?_)
  refine WL.wantG rfl rfl rfl rfl (WL1.give rfl (g_move rfl (.mk (v := .slice _ _ _) rfl rfl)) ?_)
  refine WL.wantG rfl rfl rfl rfl (WL1.callP rfl rfl rfl (.cons (.mk (v := .slice _ _ _) rfl rfl) .nil) (fun w hw => xb w hw.1) ?_)
  refine WL.wantG rfl rfl rfl rfl (WL1.give rfl (g_notT rfl (.mk rfl rfl)) ?_)
  refine WL.want rfl (WL1.give rfl (g_pickF rfl (.mk rfl rfl) (.mk (v := .bool _) rfl rfl)) ?_)
  refine WL.want rfl (WL1.give rfl (g_move rfl (.mk (v := .bool _) rfl rfl)) ?_)
  refine WL.wantG rfl rfl rfl rfl (WL1.give rfl (g_move rfl (.mk (v := .slice _ _ _) rfl rfl)) ?_)
  refine WL.wantG rfl rfl rfl rfl (WL1.give rfl (g_indexAddr (sz := 1) rfl (.mk rfl rfl) (.mk rfl rfl) rfl rfl (show _ = ((0 : Nat) : Int) from rfl) (by omega) (fun _ _ => sl_some hs (by omega))) ?_)
  refine WL.wantG rfl rfl rfl rfl (WL1.give rfl (g_load rfl (.mk rfl rfl) rfl (rd_sl hs (get1 (by omega)))) ?_)
  refine WL.wantG rfl rfl rfl rfl (WL1.give rfl (g_len rfl (.mk rfl rfl) rfl) ?_)
  refine WL.wantG rfl rfl rfl rfl (WL1.give rfl (g_move rfl (.mk (v := .slice _ _ _) rfl rfl)) ?_)
  refine WL.wantG rfl rfl rfl rfl (WL1.give rfl (g_len rfl (.mk rfl rfl) rfl) ?_)
  refine WL.wantG rfl rfl rfl rfl (WL1.give rfl (g_ne rfl (.mk rfl rfl) (.mk rfl rfl) (decide_eq_true (by omega))) ?_)
  refine WL.want rfl (WL1.give rfl (g_pickF rfl (.mk rfl rfl) (.mk (v := .bool _) rfl rfl)) ?_)
  refine WL.nil ?_
  (refine hK _ _ ?_; clear hK)
  refine WC.cond_true (.mk rfl rfl) ?_
  (refine WC.seq ?_; intro K hK)
  refine WC.region rfl ?_
  refine WL.want rfl (WL1.give rfl (g_move rfl (.mk (v := .int _ _) rfl rfl)) ?_)
  refine WL.want rfl (WL1.give rfl (g_eq rfl (.mk rfl rfl) (.mk rfl rfl) (decide_eq_true (by omega))) ?_)
  refine WL.want rfl (WL1.give rfl (g_move rfl (.mk (v := .bool _) rfl rfl)) ?_)
  refine WL.wantG rfl rfl rfl rfl (WL1.give rfl (g_move rfl (.mk (v := .slice _ _ _) rfl rfl)) ?_)
  refine WL.wantG rfl rfl rfl rfl (WL1.give rfl (g_len rfl (.mk rfl rfl) rfl) ?_)
  refine WL.wantG rfl rfl rfl rfl (WL1.give rfl (g_eq rfl (.mk rfl rfl) (.mk rfl rfl) (decide_eq_true (by omega))) ?_)
  refine WL.want rfl (WL1.give rfl (g_pickT rfl (.mk rfl rfl) (.mk (v := .bool _) rfl rfl)) ?_)
  refine WL.want rfl (WL1.give rfl (g_assign rfl (.mk (v := .bool _) rfl rfl)) ?_)
  refine WL.nil ?_
  (refine hK _ _ ?_; clear hK)
  refine WC.ret ?_
  exact fun w' hw' => ⟨rfl, hw'.1⟩
set_option maxRecDepth 20000 in
set_option maxHeartbeats 2000000 in
theorem s0G (w : World) (A B X : Option Addr) (c d x : Nat) (a b : List Row) (v : List G) (ha : MatAt w (.slice A a.length c) a) (hb : MatAt w (.slice B b.length d) b) (hv : Sl w 1 (.slice X v.length x) v.length (bvs v)) (h1 : Small8 a) (h2 : Small8 b) (h3 : v.length ≤ 10) (ga : Good (els a)) (hv2 : v.length ≠ (nth a 0).l.length) (gb : Good (els b)) (hm2 : (nth a 0).l.length = b.length) :
    Calls Try.prog 8 #[.slice A a.length c, .slice B b.length d, .slice X v.length x] w fun en w' => en = .returned (.bool true) ∧ Below w.heap.size w w' := by
  have hs := ha.1
  have sa := fun w' hb => small_e _ a w' (ha.below (w' := w') hb)
  have sb := fun w' hc => small_e _ b w' (hb.below (w' := w') hc)
  rw [decide_eq_true h1] at sa
  rw [decide_eq_true h2] at sb
  have al := h1.1
  have bl := h2.1
  have ba : ∀ i, i < a.length → (nth a i).l.length ≤ 1000 := fun i hi => Nat.le_trans (h1.2 i hi) (by omega)
  have bb : ∀ i, i < b.length → (nth b i).l.length ≤ 1000 := fun i hi => Nat.le_trans (h2.2 i hi) (by omega)
  have xa := fun w' hb => rvalid_e _ a w' (ha.below (w' := w') hb)
  have xb := fun w' hc => rvalid_e _ b w' (hb.below (w' := w') hc)
  rw [goodB_iff.2 ga] at xa
  have gp := ga.parts
  have na : ¬ (Good (els a) ∧ v.length = (nth a 0).l.length) := fun q => hv2 q.2
  rw [goodB_iff.2 gb] at xb
  refine calls_wc (args := [.slice A a.length c, .slice B b.length d, .slice X v.length x]) [6] [] Try.func8 rfl Try.ntmps8 rfl rfl rfl rfl (H.refl w) ?_
  (refine WC.seq ?_; intro K hK)
  refine WC.region rfl ?_
  refine WL.want rfl (WL1.give rfl (g_assign rfl (.mk (v := .bool _) rfl rfl)) ?_)
  refine WL.nil ?_
  (refine hK _ _ ?_; clear hK)
  (refine WC.seq ?_; intro K hK)
  (refine WC.seq ?_; intro K hK)
  refine WC.region rfl ?_
  refine WL.want rfl (WL1.callP rfl rfl rfl .nil (fun w hw => awake_e w) ?_)
  refine WL.want rfl (WL1.give rfl (g_notT rfl (.mk rfl rfl)) ?_)
  refine WL.nil ?_
  (refine hK _ _ ?_; clear hK)
  refine WC.cond_false (.mk rfl rfl) ?_
  refine WC.skip ?_
  (refine hK _ _ ?_; clear hK)
  (refine WC.seq ?_; intro K hK)
  (refine WC.seq ?_; intro K hK)
  refine WC.region rfl ?_
  refine WL.want rfl (WL1.give rfl (g_move rfl (.mk (v := .slice _ _ _) rfl rfl)) ?_)
  refine WL.want rfl (WL1.callP rfl rfl rfl (.cons (.mk (v := .slice _ _ _) rfl rfl) .nil) (fun w hw => sa w hw.1) ?_)
  refine WL.want rfl (WL1.give rfl (g_notT rfl (.mk rfl rfl)) ?_)
  refine WL.want rfl (WL1.give rfl (g_move rfl (.mk (v := .bool _) rfl rfl)) ?_)
  refine WL.wantG rfl rfl rfl rfl (WL1.give rfl (g_move rfl (.mk (v := .slice _ _ _) rfl rfl)) ?_)
  refine WL.wantG rfl rfl rfl rfl (WL1.callP rfl rfl rfl (.cons (.mk (v := .slice _ _ _) rfl rfl) .nil) (fun w hw => sb w hw.1) ?_)
  refine WL.wantG rfl rfl rfl rfl (WL1.give rfl (g_notT rfl (.mk rfl rfl)) ?_)
  refine WL.want rfl (WL1.give rfl (g_pickF rfl (.mk rfl rfl) (.mk (v := .bool _) rfl rfl)) ?_)
  refine WL.want rfl (WL1.give rfl (g_move rfl (.mk (v := .bool _) rfl rfl)) ?_)
  refine WL.wantG rfl rfl rfl rfl (WL1.give rfl (g_move rfl (.mk (v := .slice _ _ _) rfl rfl)) ?_)
  refine WL.wantG rfl rfl rfl rfl (WL1.give rfl (g_len rfl (.mk rfl rfl) rfl) ?_)
  refine WL.wantG rfl rfl rfl rfl (WL1.give rfl (g_gt rfl (.mk rfl rfl) (.mk rfl rfl) (decide_eq_false (by omega))) ?_)
  refine WL.want rfl (WL1.give rfl (g_pickF rfl (.mk rfl rfl) (.mk (v := .bool _) rfl rfl)) ?_)
  refine WL.nil ?_
  (refine hK _ _ ?_; clear hK)
  refine WC.cond_false (.mk rfl rfl) ?_
  refine WC.skip ?_
  (refine hK _ _ ?_; clear hK)
  (refine WC.seq ?_; intro K hK)
  refine WC.region rfl ?_
  refine WL.want rfl (WL1.give rfl (g_move rfl (.mk (v := .slice _ _ _) rfl rfl)) ?_)
  (refine WL.want rfl (WL1.callN rfl rfl rfl (.cons (.mk (v := .slice _ _ _) rfl rfl) .nil) (fun w hw => copied_n _ a w (ha.below hw.1) (by omega) ba) ?_); rintro _ _ ⟨A1, c1, r1, rfl, rfl, hr1, hl1⟩)
  refine WL.want rfl (WL1.give rfl (g_move rfl (.mk (v := .slice _ _ _) rfl rfl)) ?_)
  (refine WL.want rfl (WL1.callN rfl rfl rfl (.cons (.mk (v := .slice _ _ _) rfl rfl) .nil) (fun w hw => copied_n _ b w (hb.below hw.1) (by omega) bb) ?_); rintro _ _ ⟨A2, c2, r2, rfl, rfl, hr2, hl2⟩)
  refine WL.want rfl (WL1.give rfl (g_assign rfl (.mk (v := .slice _ _ _) rfl rfl)) ?_)
  refine WL.want rfl (WL1.give rfl (g_assign rfl (.mk (v := .slice _ _ _) rfl rfl)) ?_)
  refine WL.nil ?_
  (refine hK _ _ ?_; clear hK)
  (refine WC.seq ?_; intro K hK)
  refine WC.region rfl ?_
  refine WL.want rfl (WL1.give rfl (g_move rfl (.mk (v := .slice _ _ _) rfl rfl)) ?_)
  refine WL.want rfl (WL1.give rfl (g_move rfl (.mk (v := .slice _ _ _) rfl rfl)) ?_)
  (refine WL.want rfl (WL1.callN rfl rfl rfl (.cons (.mk (v := .slice _ _ _) rfl rfl) (.cons (.mk (v := .slice _ _ _) rfl rfl) .nil)) (fun w hw => mul_n _ _ r1 r2 w (MatAt.of_rowsA hw (by repeat (first | exact .head _ | apply List.Mem.tail)) (by repeat (first | exact .head _ | apply List.Mem.tail))) (MatAt.of_rowsA hw (by repeat (first | exact .head _ | apply List.Mem.tail)) (by repeat (first | exact .head _ | apply List.Mem.tail))) (hr1 ▸ ga) (hr2 ▸ gb) (by rw [el0 hr1 ga.parts.1, hl2, hm2])) ?_); rintro _ _ ⟨A3, c3, r3, rfl, rfl, hr3, hl3⟩)
  refine WL.want rfl (WL1.give rfl (g_move rfl (.mk (v := .tuple _) rfl rfl)) ?_)
  refine WL.want rfl (WL1.give rfl (g_extract rfl (.mk rfl rfl) rfl) ?_)
  refine WL.want rfl (WL1.give rfl (g_extract rfl (.mk rfl rfl) rfl) ?_)
  refine WL.want rfl (WL1.give rfl (g_assign rfl (.mk (v := .slice _ _ _) rfl rfl)) ?_)
  refine WL.want rfl (WL1.give rfl (g_assign rfl (.mk (v := .int _ _) rfl rfl)) ?_)
  refine WL.nil ?_
  (refine hK _ _ ?_; clear hK)
  (refine WC.seq ?_; intro K hK)
  refine WC.region rfl ?_
  refine WL.want rfl (WL1.give rfl (g_move rfl (.mk (v := .slice _ _ _) rfl rfl)) ?_)
  refine WL.want rfl (WL1.give rfl (g_move rfl (.mk (v := .slice _ _ _) rfl rfl)) ?_)
  refine WL.want rfl (WL1.callP rfl rfl rfl (.cons (.mk (v := .slice _ _ _) rfl rfl) (.cons (.mk (v := .slice _ _ _) rfl rfl) .nil)) (fun w hw => apply_bad _ _ r1 v w (MatAt.of_rowsA hw (by repeat (first | exact .head _ | apply List.Mem.tail)) (by repeat (first | exact .head _ | apply List.Mem.tail))) (hv.below hw.1) (fun q => na ⟨hr1 ▸ q.1, by rw [q.2, el0 hr1 (Good.parts (hr1 ▸ q.1)).1]⟩)) ?_)
  refine WL.want rfl (WL1.give rfl (g_move rfl (.mk (v := .tuple _) rfl rfl)) ?_)
  refine WL.want rfl (WL1.give rfl (g_extract rfl (.mk rfl rfl) rfl) ?_)
  refine WL.want rfl (WL1.give rfl (g_extract rfl (.mk rfl rfl) rfl) ?_)
  refine WL.want rfl (WL1.give rfl (g_assign rfl (.mk (v := .slice _ _ _) rfl rfl)) ?_)
  refine WL.want rfl (WL1.give rfl (g_assign rfl (.mk (v := .int _ _) rfl rfl)) ?_)
  refine WL.nil ?_
  (refine hK _ _ ?_; clear hK)
  (refine WC.seq ?_; intro K hK)
  (refine WC.seq ?_; intro K hK)
  refine WC.region rfl ?_
  refine WL.want rfl (WL1.give rfl (g_move rfl (.mk (v := .slice _ _ _) rfl rfl)) ?_)
  refine WL.want rfl (WL1.give rfl (g_move rfl (.mk (v := .slice _ _ _) rfl rfl)) ?_)
  refine WL.want rfl (WL1.callP rfl rfl rfl (.cons (.mk (v := .slice _ _ _) rfl rfl) (.cons (.mk (v := .slice _ _ _) rfl rfl) .nil)) (fun w hw => msame_t _ _ r1 a w (MatAt.of_rowsA hw (by repeat (first | exact .head _ | apply List.Mem.tail)) (by repeat (first | exact .head _ | apply List.Mem.tail))) (ha.below hw.1) hr1) ?_)
  refine WL.want rfl (WL1.give rfl (g_notT rfl (.mk rfl rfl)) ?_)
  refine WL.want rfl (WL1.give rfl (g_move rfl (.mk (v := .bool _) rfl rfl)) ?_)
  refine WL.wantG rfl rfl rfl rfl (WL1.give rfl (g_move rfl (.mk (v := .slice _ _ _) rfl rfl)) ?_)
  refine WL.wantG rfl rfl rfl rfl (WL1.give rfl (g_move rfl (.mk (v := .slice _ _ _) rfl rfl)) ?_)
  refine WL.wantG rfl rfl rfl rfl (WL1.callP rfl rfl rfl (.cons (.mk (v := .slice _ _ _) rfl rfl) (.cons (.mk (v := .slice _ _ _) rfl rfl) .nil)) (fun w hw => msame_t _ _ r2 b w (MatAt.of_rowsA hw (by repeat (first | exact .head _ | apply List.Mem.tail)) (by repeat (first | exact .head _ | apply List.Mem.tail))) (hb.below hw.1) hr2) ?_)
  refine WL.wantG rfl rfl rfl rfl (WL1.give rfl (g_notT rfl (.mk rfl rfl)) ?_)
  refine WL.want rfl (WL1.give rfl (g_pickF rfl (.mk rfl rfl) (.mk (v := .bool _) rfl rfl)) ?_)
  refine WL.nil ?_
  (refine hK _ _ ?_; clear hK)
  refine WC.cond_false (.mk rfl rfl) ?_
  refine WC.skip ?_
  (refine hK _ _ ?_; clear hK)
  (refine WC.seq ?_; intro K hK)
  (refine WC.seq ?_; intro K hK)
  refine WC.region rfl ?_
  refine WL.want rfl (WL1.give rfl (g_move rfl (.mk (v := .slice _ _ _) rfl rfl)) ?_)
  refine WL.want rfl (WL1.callP rfl rfl rfl (.cons (.mk (v := .slice _ _ _) rfl rfl) .nil) (fun w hw => xa w hw.1) ?_)
  refine WL.want rfl (WL1.give rfl (g_notT rfl (.mk rfl rfl)) ?_)
  refine WL.want rfl (WL1.give rfl (g_move rfl (.mk (v := .bool _) rfl rfl)) ?_)
  refine WL.wantG rfl rfl rfl rfl (WL1.give rfl (g_move rfl (.mk (v := .slice _ _ _) rfl rfl)) ?_)
  refine WL.wantG rfl rfl rfl rfl (WL1.give rfl (g_len rfl (.mk rfl rfl) rfl) ?_)
  refine WL.wantG rfl rfl rfl rfl (WL1.give rfl (g_move rfl (.mk (v := .slice _ _ _) rfl rfl)) ?_)
  refine WL.wantG rfl rfl rfl rfl (WL1.give rfl (g_indexAddr (sz := 1) rfl (.mk rfl rfl) (.mk rfl rfl) rfl rfl (show _ = ((0 : Nat) : Int) from rfl) (by omega) (fun _ _ => sl_some hs (by omega))) ?_)
  refine WL.wantG rfl rfl rfl rfl (WL1.give rfl (g_load rfl (.mk rfl rfl) rfl (rd_sl hs (get1 (by omega)))) ?_)
  refine WL.wantG rfl rfl rfl rfl (WL1.give rfl (g_len rfl (.mk rfl rfl) rfl) ?_)
  refine WL.wantG rfl rfl rfl rfl (WL1.give rfl (g_ne rfl (.mk rfl rfl) (.mk rfl rfl) (decide_eq_true (by omega))) ?_)
  refine WL.want rfl (WL1.give rfl (g_pickF rfl (.mk rfl rfl) (.mk (v := .bool _) rfl rfl)) ?_)
  refine WL.nil ?_
  (refine hK _ _ ?_; clear hK)
  refine WC.cond_true (.mk rfl rfl) ?_
  (refine WC.seq ?_; intro K hK)
  refine WC.region rfl ?_
  refine WL.want rfl (WL1.give rfl (g_move rfl (.mk (v := .int _ _) rfl rfl)) ?_)
  refine WL.want rfl (WL1.give rfl (g_ne rfl (.mk rfl rfl) (.mk rfl rfl) (decide_eq_false (by omega))) ?_)
  refine WL.want rfl (WL1.give rfl (g_move rfl (.mk (v := .bool _) rfl rfl)) ?_)
  refine WL.wantG rfl rfl rfl rfl (WL1.give rfl (g_move rfl (.mk (v := .slice _ _ _) rfl rfl)) ?_)
  refine WL.wantG rfl rfl rfl rfl (WL1.give rfl (g_len rfl (.mk rfl rfl) rfl) ?_)
  refine WL.wantG rfl rfl rfl rfl (WL1.give rfl (g_ne rfl (.mk rfl rfl) (.mk rfl rfl) (decide_eq_false (by omega))) ?_)
  refine WL.want rfl (WL1.give rfl (g_pickF rfl (.mk rfl rfl) (.mk (v := .bool _) rfl rfl)) ?_)
  refine WL.nil ?_
  (refine hK _ _ ?_; clear hK)
  refine WC.cond_false (.mk rfl rfl) ?_
  refine WC.skip ?_
  (refine hK _ _ ?_; clear hK)
  (refine WC.seq ?_; intro K hK)
  (refine WC.seq ?_; intro K hK)
  refine WC.region rfl ?_
  refine WL.want rfl (WL1.give rfl (g_move rfl (.mk (v := .slice _ _ _) rfl rfl)) ?_)
  refine WL.want rfl (WL1.callP rfl rfl rfl (.cons (.mk (v := .slice _ _ _) rfl rfl) .nil) (fun w hw => xa w hw.1) ?_)
  refine WL.want rfl (WL1.give rfl (g_notT rfl (.mk rfl rfl)) ?_)
  refine WL.want rfl (WL1.give rfl (g_move rfl (.mk (v := .bool _) rfl rfl)) ?_)
  refine WL.wantG rfl rfl rfl rfl (WL1.give rfl (g_move rfl (.mk (v := .slice _ _ _) rfl rfl)) ?_)
  refine WL.wantG rfl rfl rfl rfl (WL1.callP rfl rfl rfl (.cons (.mk (v := .slice _ _ _) rfl rfl) .nil) (fun w hw => xb w hw.1) ?_)
  refine WL.wantG rfl rfl rfl rfl (WL1.give rfl (g_notT rfl (.mk rfl rfl)) ?_)
  refine WL.want rfl (WL1.give rfl (g_pickF rfl (.mk rfl rfl) (.mk (v := .bool _) rfl rfl)) ?_)
  refine WL.want rfl (WL1.give rfl (g_move rfl (.mk (v := .bool _) rfl rfl)) ?_)
  refine WL.wantG rfl rfl rfl rfl (WL1.give rfl (g_move rfl (.mk (v := .slice _ _ _) rfl rfl)) ?_)
  refine WL.wantG rfl rfl rfl rfl (WL1.give rfl (g_indexAddr (sz := 1) rfl (.mk rfl rfl) (.mk rfl rfl) rfl rfl (show _ = ((0 : Nat) : Int) from rfl) (by omega) (fun _ _ => sl_some hs (by omega))) ?_)
  refine WL.wantG rfl rfl rfl rfl (WL1.give rfl (g_load rfl (.mk rfl rfl) rfl (rd_sl hs (get1 (by omega)))) ?_)
  refine WL.wantG rfl rfl rfl rfl (WL1.give rfl (g_len rfl (.mk rfl rfl) rfl) ?_)
  refine WL.wantG rfl rfl rfl rfl (WL1.give rfl (g_move rfl (.mk (v := .slice _ _ _) rfl rfl)) ?_)
  refine WL.wantG rfl rfl rfl rfl (WL1.give rfl (g_len rfl (.mk rfl rfl) rfl) ?_)
  refine WL.wantG rfl rfl rfl rfl (WL1.give rfl (g_ne rfl (.mk rfl rfl) (.mk rfl rfl) (decide_eq_false (by omega))) ?_)
  refine WL.want rfl (WL1.give rfl (g_pickF rfl (.mk rfl rfl) (.mk (v := .bool _) rfl rfl)) ?_)
  refine WL.nil ?_
  (refine hK _ _ ?_; clear hK)
  refine WC.cond_false (.mk rfl rfl) ?_
  refine WC.skip ?_
  (refine hK _ _ ?_; clear hK)
  (refine WC.seq ?_; intro K hK)
  refine WC.region rfl ?_
  refine WL.want rfl (WL1.give rfl (g_move rfl (.mk (v := .int _ _) rfl rfl)) ?_)
  refine WL.want rfl (WL1.give rfl (g_eq rfl (.mk rfl rfl) (.mk rfl rfl) (decide_eq_true (by omega))) ?_)
  refine WL.want rfl (WL1.give rfl (g_move rfl (.mk (v := .bool _) rfl rfl)) ?_)
  refine WL.wantG rfl rfl rfl rfl (WL1.give rfl (g_move rfl (.mk (v := .slice _ _ _) rfl rfl)) ?_)
  refine WL.wantG rfl rfl rfl rfl (WL1.give rfl (g_move rfl (.mk (v := .slice _ _ _) rfl rfl)) ?_)
  refine WL.wantG rfl rfl rfl rfl (WL1.give rfl (g_move rfl (.mk (v := .slice _ _ _) rfl rfl)) ?_)
  (refine WL.wantG rfl rfl rfl rfl (WL1.callN rfl rfl rfl (.cons (.mk (v := .slice _ _ _) rfl rfl) (.cons (.mk (v := .slice _ _ _) rfl rfl) .nil)) (fun w hw => rmul_n _ _ a b (nth b 0).l.length w (ha.below hw.1) (hb.below hw.1) (fun i hi => by rw [ga.row hi, hm2]) (fun i hi => gb.row hi) (by omega) gb.parts.1 (by omega) (by have := gb.parts; omega)) ?_); rintro _ _ ⟨A5, c5, r5, rfl, rfl, hr5, hl5⟩)
  refine WL.wantG rfl rfl rfl rfl (WL1.callP rfl rfl rfl (.cons (.mk (v := .slice _ _ _) rfl rfl) (.cons (.mk (v := .slice _ _ _) rfl rfl) .nil)) (fun w hw => msame_t _ _ r3 r5 w (MatAt.of_rowsA hw (by repeat (first | exact .head _ | apply List.Mem.tail)) (by repeat (first | exact .head _ | apply List.Mem.tail))) (MatAt.of_rowsA hw (by repeat (first | exact .head _ | apply List.Mem.tail)) (by repeat (first | exact .head _ | apply List.Mem.tail))) (by rw [hr3, hr5, hr1, hr2])) ?_)
  refine WL.want rfl (WL1.give rfl (g_pickT rfl (.mk rfl rfl) (.mk (v := .bool _) rfl rfl)) ?_)
  refine WL.want rfl (WL1.give rfl (g_assign rfl (.mk (v := .bool _) rfl rfl)) ?_)
  refine WL.nil ?_
  (refine hK _ _ ?_; clear hK)
  refine WC.ret ?_
  exact fun w' hw' => ⟨rfl, hw'.1⟩
set_option maxRecDepth 20000 in
set_option maxHeartbeats 2000000 in
theorem s1N (w : World) (A B X : Option Addr) (c d x : Nat) (a b : List Row) (v : List G) (ha : MatAt w (.slice A a.length c) a) (hb : MatAt w (.slice B b.length d) b) (hv : Sl w 1 (.slice X v.length x) v.length (bvs v)) (h1 : Small8 a) (h2 : Small8 b) (h3 : v.length ≤ 10) (ga : Good (els a)) (hv2 : v.length = (nth a 0).l.length) (gb : ¬ Good (els b)) :
    Calls Try.prog 8 #[.slice A a.length c, .slice B b.length d, .slice X v.length x] w fun en w' => en = .returned (.bool true) ∧ Below w.heap.size w w' := by
  have hs := ha.1
  have sa := fun w' hb => small_e _ a w' (ha.below (w' := w') hb)
  have sb := fun w' hc => small_e _ b w' (hb.below (w' := w') hc)
  rw [decide_eq_true h1] at sa
  rw [decide_eq_true h2] at sb
  have al := h1.1
  have bl := h2.1
  have ba : ∀ i, i < a.length → (nth a i).l.length ≤ 1000 := fun i hi => Nat.le_trans (h1.2 i hi) (by omega)
  have bb : ∀ i, i < b.length → (nth b i).l.length ≤ 1000 := fun i hi => Nat.le_trans (h2.2 i hi) (by omega)
  have xa := fun w' hb => rvalid_e _ a w' (ha.below (w' := w') hb)
  have xb := fun w' hc => rvalid_e _ b w' (hb.below (w' := w') hc)
  rw [goodB_iff.2 ga] at xa
  have gp := ga.parts
  rw [goodB_no gb] at xb
  have nm : ¬ (Good (els a) ∧ Good (els b) ∧ (nth a 0).l.length = b.length) := fun q => gb q.2.1
  refine calls_wc (args := [.slice A a.length c, .slice B b.length d, .slice X v.length x]) [6] [] Try.func8 rfl Try.ntmps8 rfl rfl rfl rfl (H.refl w) ?_
  (refine WC.seq ?_; intro K hK)
  refine WC.region rfl ?_
  refine WL.want rfl (WL1.give rfl (g_assign rfl (.mk (v := .bool _) rfl rfl)) ?_)
  refine WL.nil ?_
  (refine hK _ _ ?_; clear hK)
  (refine WC.seq ?_; intro K hK)
  (refine WC.seq ?_; intro K hK)
  refine WC.region rfl ?_
  refine WL.want rfl (WL1.callP rfl rfl rfl .nil (fun w hw => awake_e w) ?_)
  refine WL.want rfl (WL1.give rfl (g_notT rfl (.mk rfl rfl)) ?_)
  refine WL.nil ?_
  (refine hK _ _ ?_; clear hK)
  refine WC.cond_false (.mk rfl rfl) ?_
  refine WC.skip ?_
  (refine hK _ _ ?_; clear hK)
  (refine WC.seq ?_; intro K hK)
  (refine WC.seq ?_; intro K hK)
  refine WC.region rfl ?_
  refine WL.want rfl (WL1.give rfl (g_move rfl (.mk (v := .slice _ _ _) rfl rfl)) ?_)
  refine WL.want rfl (WL1.callP rfl rfl rfl (.cons (.mk (v := .slice _ _ _) rfl rfl) .nil) (fun w hw => sa w hw.1) ?_)
  refine WL.want rfl (WL1.give rfl (g_notT rfl (.mk rfl rfl)) ?_)
  refine WL.want rfl (WL1.give rfl (g_move rfl (.mk (v := .bool _) rfl rfl)) ?_)
  refine WL.wantG rfl rfl rfl rfl (WL1.give rfl (g_move rfl (.mk (v := .slice _ _ _) rfl rfl)) ?_)
  refine WL.wantG rfl rfl rfl rfl (WL1.callP rfl rfl rfl (.cons (.mk (v := .slice _ _ _) rfl rfl) .nil) (fun w hw => sb w hw.1) ?_)
  refine WL.wantG rfl rfl rfl rfl (WL1.give rfl (g_notT rfl (.mk rfl rfl)) ?_)
  refine WL.want rfl (WL1.give rfl (g_pickF rfl (.mk rfl rfl) (.mk (v := .bool _) rfl rfl)) ?_)
  refine WL.want rfl (WL1.give rfl (g_move rfl (.mk (v := .bool _) rfl rfl)) ?_)
  refine WL.wantG rfl rfl rfl rfl (WL1.give rfl (g_move rfl (.mk (v := .slice _ _ _) rfl rfl)) ?_)
  refine WL.wantG rfl rfl rfl rfl (WL1.give rfl (g_len rfl (.mk rfl rfl) rfl) ?_)
  refine WL.wantG rfl rfl rfl rfl (WL1.give rfl (g_gt rfl (.mk rfl rfl) (.mk rfl rfl) (decide_eq_false (by omega))) ?_)
  refine WL.want rfl (WL1.give rfl (g_pickF rfl (.mk rfl rfl) (.mk (v := .bool _) rfl rfl)) ?_)
  refine WL.nil ?_
  (refine hK _ _ ?_; clear hK)
  refine WC.cond_false (.mk rfl rfl) ?_
  refine WC.skip ?_
  (refine hK _ _ ?_; clear hK)
  (refine WC.seq ?_; intro K hK)
  refine WC.region rfl ?_
  refine WL.want rfl (WL1.give rfl (g_move rfl (.mk (v := .slice _ _ _) rfl rfl)) ?_)
  (refine WL.want rfl (WL1.callN rfl rfl rfl (.cons (.mk (v := .slice _ _ _) rfl rfl) .nil) (fun w hw => copied_n _ a w (ha.below hw.1) (by omega) ba) ?_); rintro _ _ ⟨A1, c1, r1, rfl, rfl, hr1, hl1⟩)
  refine WL.want rfl (WL1.give rfl (g_move rfl (.mk (v := .slice _ _ _) rfl rfl)) ?_)
  (refine WL.want rfl (WL1.callN rfl rfl rfl (.cons (.mk (v := .slice _ _ _) rfl rfl) .nil) (fun w hw => copied_n _ b w (hb.below hw.1) (by omega) bb) ?_); rintro _ _ ⟨A2, c2, r2, rfl, rfl, hr2, hl2⟩)
  refine WL.want rfl (WL1.give rfl (g_assign rfl (.mk (v := .slice _ _ _) rfl rfl)) ?_)
  refine WL.want rfl (WL1.give rfl (g_assign rfl (.mk (v := .slice _ _ _) rfl rfl)) ?_)
  refine WL.nil ?_
  (refine hK _ _ ?_; clear hK)
  (refine WC.seq ?_; intro K hK)
  refine WC.region rfl ?_
  refine WL.want rfl (WL1.give rfl (g_move rfl (.mk (v := .slice _ _ _) rfl rfl)) ?_)
  refine WL.want rfl (WL1.give rfl (g_move rfl (.mk (v := .slice _ _ _) rfl rfl)) ?_)
  refine WL.want rfl (WL1.callP rfl rfl rfl (.cons (.mk (v := .slice _ _ _) rfl rfl) (.cons (.mk (v := .slice _ _ _) rfl rfl) .nil)) (fun w hw => mul_bad _ _ r1 r2 w (MatAt.of_rowsA hw (by repeat (first | exact .head _ | apply List.Mem.tail)) (by repeat (first | exact .head _ | apply List.Mem.tail))) (MatAt.of_rowsA hw (by repeat (first | exact .head _ | apply List.Mem.tail)) (by repeat (first | exact .head _ | apply List.Mem.tail))) (fun q => nm ⟨hr1 ▸ q.1, hr2 ▸ q.2.1, by rw [← el0 hr1 (Good.parts (hr1 ▸ q.1)).1, q.2.2, hl2]⟩)) ?_)
  refine WL.want rfl (WL1.give rfl (g_move rfl (.mk (v := .tuple _) rfl rfl)) ?_)
  refine WL.want rfl (WL1.give rfl (g_extract rfl (.mk rfl rfl) rfl) ?_)
  refine WL.want rfl (WL1.give rfl (g_extract rfl (.mk rfl rfl) rfl) ?_)
  refine WL.want rfl (WL1.give rfl (g_assign rfl (.mk (v := .slice _ _ _) rfl rfl)) ?_)
  refine WL.want rfl (WL1.give rfl (g_assign rfl (.mk (v := .int _ _) rfl rfl)) ?_)
  refine WL.nil ?_
  (refine hK _ _ ?_; clear hK)
  (refine WC.seq ?_; intro K hK)
  refine WC.region rfl ?_
  refine WL.want rfl (WL1.give rfl (g_move rfl (.mk (v := .slice _ _ _) rfl rfl)) ?_)
  refine WL.want rfl (WL1.give rfl (g_move rfl (.mk (v := .slice _ _ _) rfl rfl)) ?_)
  (refine WL.want rfl (WL1.callN rfl rfl rfl (.cons (.mk (v := .slice _ _ _) rfl rfl) (.cons (.mk (v := .slice _ _ _) rfl rfl) .nil)) (fun w hw => apply_n _ _ r1 v w (MatAt.of_rowsA hw (by repeat (first | exact .head _ | apply List.Mem.tail)) (by repeat (first | exact .head _ | apply List.Mem.tail))) (hv.below hw.1) (hr1 ▸ ga) (by rw [el0 hr1 ga.parts.1, hv2])) ?_); rintro _ _ ⟨b4, rfl, rfl⟩)
  refine WL.want rfl (WL1.give rfl (g_move rfl (.mk (v := .tuple _) rfl rfl)) ?_)
  refine WL.want rfl (WL1.give rfl (g_extract rfl (.mk rfl rfl) rfl) ?_)
  refine WL.want rfl (WL1.give rfl (g_extract rfl (.mk rfl rfl) rfl) ?_)
  refine WL.want rfl (WL1.give rfl (g_assign rfl (.mk (v := .slice _ _ _) rfl rfl)) ?_)
  refine WL.want rfl (WL1.give rfl (g_assign rfl (.mk (v := .int _ _) rfl rfl)) ?_)
  refine WL.nil ?_
  (refine hK _ _ ?_; clear hK)
  (refine WC.seq ?_; intro K hK)
  (refine WC.seq ?_; intro K hK)
  refine WC.region rfl ?_
  refine WL.want rfl (WL1.give rfl (g_move rfl (.mk (v := .slice _ _ _) rfl rfl)) ?_)
  refine WL.want rfl (WL1.give rfl (g_move rfl (.mk (v := .slice _ _ _) rfl rfl)) ?_)
  refine WL.want rfl (WL1.callP rfl rfl rfl (.cons (.mk (v := .slice _ _ _) rfl rfl) (.cons (.mk (v := .slice _ _ _) rfl rfl) .nil)) (fun w hw => msame_t _ _ r1 a w (MatAt.of_rowsA hw (by repeat (first | exact .head _ | apply List.Mem.tail)) (by repeat (first | exact .head _ | apply List.Mem.tail))) (ha.below hw.1) hr1) ?_)
  refine WL.want rfl (WL1.give rfl (g_notT rfl (.mk rfl rfl)) ?_)
  refine WL.want rfl (WL1.give rfl (g_move rfl (.mk (v := .bool _) rfl rfl)) ?_)
  refine WL.wantG rfl rfl rfl rfl (WL1.give rfl (g_move rfl (.mk (v := .slice _ _ _) rfl rfl)) ?_)
  refine WL.wantG rfl rfl rfl rfl (WL1.give rfl (g_move rfl (.mk (v := .slice _ _ _) rfl rfl)) ?_)
  refine WL.wantG rfl rfl rfl rfl (WL1.callP rfl rfl rfl (.cons (.mk (v := .slice _ _ _) rfl rfl) (.cons (.mk (v := .slice _ _ _) rfl rfl) .nil)) (fun w hw => msame_t _ _ r2 b w (MatAt.of_rowsA hw (by repeat (first | exact .head _ | apply List.Mem.tail)) (by repeat (first | exact .head _ | apply List.Mem.tail))) (hb.below hw.1) hr2) ?_)
  refine WL.wantG rfl rfl rfl rfl (WL1.give rfl (g_notT rfl (.mk rfl rfl)) ?_)
  refine WL.want rfl (WL1.give rfl (g_pickF rfl (.mk rfl rfl) (.mk (v := .bool _) rfl rfl)) ?_)
  refine WL.nil ?_
  (refine hK _ _ ?_; clear hK)
  refine WC.cond_false (.mk rfl rfl) ?_
  refine WC.skip ?_
  (refine hK _ _ ?_; clear hK)
  (refine WC.seq ?_; intro K hK)
  (refine WC.seq ?_; intro K hK)
  refine WC.region rfl ?_
  refine WL.want rfl (WL1.give rfl (g_move rfl (.mk (v := .slice _ _ _) rfl rfl)) ?_)
  refine WL.want rfl (WL1.callP rfl rfl rfl (.cons (.mk (v := .slice _ _ _) rfl rfl) .nil) (fun w hw => xa w hw.1) ?_)
  refine WL.want rfl (WL1.give rfl (g_notT rfl (.mk rfl rfl)) ?_)
  refine WL.want rfl (WL1.give rfl (g_move rfl (.mk (v := .bool _) rfl rfl)) ?_)
  refine WL.wantG rfl rfl rfl rfl (WL1.give rfl (g_move rfl (.mk (v := .slice _ _ _) rfl rfl)) ?_)
  refine WL.wantG rfl rfl rfl rfl (WL1.give rfl (g_len rfl (.mk rfl rfl) rfl) ?_)
  refine WL.wantG rfl rfl rfl rfl (WL1.give rfl (g_move rfl (.mk (v := .slice _ _ _) rfl rfl)) ?_)
  refine WL.wantG rfl rfl rfl rfl (WL1.give rfl (g_indexAddr (sz := 1) rfl (.mk rfl rfl) (.mk rfl rfl) rfl rfl (show _ = ((0 : Nat) : Int) from rfl) (by omega) (fun _ _ => sl_some hs (by omega))) ?_)
  refine WL.wantG rfl rfl rfl rfl (WL1.give rfl (g_load rfl (.mk rfl rfl) rfl (rd_sl hs (get1 (by omega)))) ?_)
  refine WL.wantG rfl rfl rfl rfl (WL1.give rfl (g_len rfl (.mk rfl rfl) rfl) ?_)
  refine WL.wantG rfl rfl rfl rfl (WL1.give rfl (g_ne rfl (.mk rfl rfl) (.mk rfl rfl) (decide_eq_false (by omega))) ?_)
  refine WL.want rfl (WL1.give rfl (g_pickF rfl (.mk rfl rfl) (.mk (v := .bool _) rfl rfl)) ?_)
  refine WL.nil ?_
  (refine hK _ _ ?_; clear hK)
  refine WC.cond_false (.mk rfl rfl) ?_
  (refine WC.seq ?_; intro K hK)
  refine WC.region rfl ?_
  refine WL.want rfl (WL1.give rfl (g_move rfl (.mk (v := .int _ _) rfl rfl)) ?_)
  refine WL.want rfl (WL1.give rfl (g_ne rfl (.mk rfl rfl) (.mk rfl rfl) (decide_eq_false (by omega))) ?_)
  refine WL.want rfl (WL1.give rfl (g_move rfl (.mk (v := .bool _) rfl rfl)) ?_)
  refine WL.wantG rfl rfl rfl rfl (WL1.give rfl (g_move rfl (.mk (v := .slice _ _ _) rfl rfl)) ?_)
  refine WL.wantG rfl rfl rfl rfl (WL1.give rfl (g_move rfl (.mk (v := .slice _ _ _) rfl rfl)) ?_)
  refine WL.wantG rfl rfl rfl rfl (WL1.give rfl (g_move rfl (.mk (v := .slice _ _ _) rfl rfl)) ?_)
  (refine WL.wantG rfl rfl rfl rfl (WL1.callN rfl rfl rfl (.cons (.mk (v := .slice _ _ _) rfl rfl) (.cons (.mk (v := .slice _ _ _) rfl rfl) .nil)) (fun w hw => rapply_n _ _ a v w (ha.below hw.1) (hv.below hw.1) (fun i hi => by rw [ga.row hi, hv2]) (by omega) (by omega)) ?_); rintro _ _ ⟨O, oc, rfl, rfl⟩)
  refine WL.wantG rfl rfl rfl rfl (WL1.callP rfl rfl rfl (.cons (.mk (v := .slice _ _ _) rfl rfl) (.cons (.mk (v := .slice _ _ _) rfl rfl) .nil)) (fun w hw => bsame_t (n := a.length) (by rw [← hl1]; exact Sl.of_vec hw (by repeat (first | exact .head _ | apply List.Mem.tail))) (Sl.of_vec hw (by repeat (first | exact .head _ | apply List.Mem.tail))) (by rw [ap_len, els_len, hl1]) (by rw [hr1])) ?_)
  refine WL.wantG rfl rfl rfl rfl (WL1.give rfl (g_notT rfl (.mk rfl rfl)) ?_)
  refine WL.want rfl (WL1.give rfl (g_pickF rfl (.mk rfl rfl) (.mk (v := .bool _) rfl rfl)) ?_)
  refine WL.nil ?_
  (refine hK _ _ ?_; clear hK)
  refine WC.cond_false (.mk rfl rfl) ?_
  refine WC.skip ?_
  (refine hK _ _ ?_; clear hK)
  (refine WC.seq ?_; intro K hK)
  (refine WC.seq ?_; intro K hK)
  refine WC.region rfl ?_
  refine WL.want rfl (WL1.give rfl (g_move rfl (.mk (v := .slice _ _ _) rfl rfl)) ?_)
  refine WL.want rfl (WL1.callP rfl rfl rfl (.cons (.mk (v := .slice _ _ _) rfl rfl) .nil) (fun w hw => xa w hw.1) ?_)
  refine WL.want rfl (WL1.give rfl (g_notT rfl (.mk rfl rfl)) ?_)
  refine WL.want rfl (WL1.give rfl (g_move rfl (.mk (v := .bool _) rfl rfl)) ?_)
  refine WL.wantG rfl rfl rfl rfl (WL1.give rfl (g_move rfl (.mk (v := .slice _ _ _) rfl rfl)) ?_)
  refine WL.wantG rfl rfl rfl rfl (WL1.callP rfl rfl rfl (.cons (.mk (v := .slice _ _ _) rfl rfl) .nil) (fun w hw => xb w hw.1) ?_)
  refine WL.wantG rfl rfl rfl rfl (WL1.give rfl (g_notF rfl (.mk rfl rfl)) ?_)
  refine WL.want rfl (WL1.give rfl (g_pickF rfl (.mk rfl rfl) (.mk (v := .bool _) rfl rfl)) ?_)
  refine WL.want rfl (WL1.give rfl (g_move rfl (.mk (v := .bool _) rfl rfl)) ?_)
  refine WL.skipG rfl rfl rfl rfl rfl rfl ?_
  refine WL.skipG rfl rfl rfl rfl rfl rfl ?_
  refine WL.skipG rfl rfl rfl rfl rfl rfl ?_
  refine WL.skipG rfl rfl rfl rfl rfl rfl ?_
  refine WL.skipG rfl rfl rfl rfl rfl rfl ?_
  refine WL.skipG rfl rfl rfl rfl rfl rfl ?_
  refine WL.skipG rfl rfl rfl rfl rfl rfl ?_
  refine WL.want rfl (WL1.give rfl (g_pickT rfl (.mk rfl rfl) (.mk (v := .bool _) rfl rfl)) ?_)
  refine WL.nil ?_
  (refine hK _ _ ?_; clear hK)
  refine WC.cond_true (.mk rfl rfl) ?_
  (refine WC.seq ?_; intro K hK)
  refine WC.region rfl ?_
  refine WL.want rfl (WL1.give rfl (g_move rfl (.mk (v := .int _ _) rfl rfl)) ?_)
  refine WL.want rfl (WL1.give rfl (g_eq rfl (.mk rfl rfl) (.mk rfl rfl) (decide_eq_true (by omega))) ?_)
  refine WL.want rfl (WL1.give rfl (g_move rfl (.mk (v := .bool _) rfl rfl)) ?_)
  refine WL.wantG rfl rfl rfl rfl (WL1.give rfl (g_move rfl (.mk (v := .slice _ _ _) rfl rfl)) ?_)
  refine WL.wantG rfl rfl rfl rfl (WL1.give rfl (g_len rfl (.mk rfl rfl) rfl) ?_)
  refine WL.wantG rfl rfl rfl rfl (WL1.give rfl (g_eq rfl (.mk rfl rfl) (.mk rfl rfl) (decide_eq_true (by omega))) ?_)
  refine WL.want rfl (WL1.give rfl (g_pickT rfl (.mk rfl rfl) (.mk (v := .bool _) rfl rfl)) ?_)
  refine WL.want rfl (WL1.give rfl (g_assign rfl (.mk (v := .bool _) rfl rfl)) ?_)
  refine WL.nil ?_
  (refine hK _ _ ?_; clear hK)
  refine WC.ret ?_
  exact fun w' hw' => ⟨rfl, hw'.1⟩
set_option maxRecDepth 20000 in
set_option maxHeartbeats 2000000 in
theorem s1D (w : World) (A B X : Option Addr) (c d x : Nat) (a b : List Row) (v : List G) (ha : MatAt w (.slice A a.length c) a) (hb : MatAt w (.slice B b.length d) b) (hv : Sl w 1 (.slice X v.length x) v.length (bvs v)) (h1 : Small8 a) (h2 : Small8 b) (h3 : v.length ≤ 10) (ga : Good (els a)) (hv2 : v.length = (nth a 0).l.length) (gb : Good (els b)) (hm2 : (nth a 0).l.length ≠ b.length) :
    Calls Try.prog 8 #[.slice A a.length c, .slice B b.length d, .slice X v.length x] w fun en w' => en = .returned (.bool true) ∧ Below w.heap.size w w' := by
  have hs := ha.1
  have sa := fun w' hb => small_e _ a w' (ha.below (w' := w') hb)
  have sb := fun w' hc => small_e _ b w' (hb.below (w' := w') hc)
  rw [decide_eq_true h1] at sa
  rw [decide_eq_true h2] at sb
  have al := h1.1
  have bl := h2.1
  have ba : ∀ i, i < a.length → (nth a i).l.length ≤ 1000 := fun i hi => Nat.le_trans (h1.2 i hi) (by omega)
  have bb : ∀ i, i < b.length → (nth b i).l.length ≤ 1000 := fun i hi => Nat.le_trans (h2.2 i hi) (by omega)
  have xa := fun w' hb => rvalid_e _ a w' (ha.below (w' := w') hb)
  have xb := fun w' hc => rvalid_e _ b w' (hb.below (w' := w') hc)
  rw [goodB_iff.2 ga] at xa
  have gp := ga.parts
  rw [goodB_iff.2 gb] at xb
  have nm : ¬ (Good (els a) ∧ Good (els b) ∧ (nth a 0).l.length = b.length) := fun q => hm2 q.2.2
  refine calls_wc (args := [.slice A a.length c, .slice B b.length d, .slice X v.length x]) [6] [] Try.func8 rfl Try.ntmps8 rfl rfl rfl rfl (H.refl w) ?_
  (refine WC.seq ?_; intro K hK)
  refine WC.region rfl ?_
  refine WL.want rfl (WL1.give rfl (g_assign rfl (.mk (v := .bool _) rfl rfl)) ?_)
  refine WL.nil ?_
  (refine hK _ _ ?_; clear hK)
  (refine WC.seq ?_; intro K hK)
  (refine WC.seq ?_; intro K hK)
  refine WC.region rfl ?_
  refine WL.want rfl (WL1.callP rfl rfl rfl .nil (fun w hw => awake_e w) ?_)
  refine WL.want rfl (WL1.give rfl (g_notT rfl (.mk rfl rfl)) ?_)
  refine WL.nil ?_
  (refine hK _ _ ?_; clear hK)
  refine WC.cond_false (.mk rfl rfl) ?_
  refine WC.skip ?_
  (refine hK _ _ ?_; clear hK)
  (refine WC.seq ?_; intro K hK)
  (refine WC.seq ?_; intro K hK)
  refine WC.region rfl ?_
  refine WL.want rfl (WL1.give rfl (g_move rfl (.mk (v := .slice _ _ _) rfl rfl)) ?_)
  refine WL.want rfl (WL1.callP rfl rfl rfl (.cons (.mk (v := .slice _ _ _) rfl rfl) .nil) (fun w hw => sa w hw.1) ?_)
  refine WL.want rfl (WL1.give rfl (g_notT rfl (.mk rfl rfl)) ?_)
  refine WL.want rfl (WL1.give rfl (g_move rfl (.mk (v := .bool _) rfl rfl)) ?_)
  refine WL.wantG rfl rfl rfl rfl (WL1.give rfl (g_move rfl (.mk (v := .slice _ _ _) rfl rfl)) ?_)
  refine WL.wantG rfl rfl rfl rfl (WL1.callP rfl rfl rfl (.cons (.mk (v := .slice _ _ _) rfl rfl) .nil) (fun w hw => sb w hw.1) ?_)
  refine WL.wantG rfl rfl rfl rfl (WL1.give rfl (g_notT rfl (.mk rfl rfl)) ?_)
  refine WL.want rfl (WL1.give rfl (g_pickF rfl (.mk rfl rfl) (.mk (v := .bool _) rfl rfl)) ?_)
  refine WL.want rfl (WL1.give rfl (g_move rfl (.mk (v := .bool _) rfl rfl)) ?_)
  refine WL.wantG rfl rfl rfl rfl (WL1.give rfl (g_move rfl (.mk (v := .slice _ _ _) rfl rfl)) ?_)
  refine WL.wantG rfl rfl rfl rfl (WL1.give rfl (g_len rfl (.mk rfl rfl) rfl) ?_)
  refine WL.wantG rfl rfl rfl rfl (WL1.give rfl (g_gt rfl (.mk rfl rfl) (.mk rfl rfl) (decide_eq_false (by omega))) ?_)
  refine WL.want rfl (WL1.give rfl (g_pickF rfl (.mk rfl rfl) (.mk (v := .bool _) rfl rfl)) ?_)
  refine WL.nil ?_
  (refine hK _ _ ?_; clear hK)
  refine WC.cond_false (.mk rfl rfl) ?_
  refine WC.skip ?_
  (refine hK _ _ ?_; clear hK)
  (refine WC.seq ?_; intro K hK)
  refine WC.region rfl ?_
  refine WL.want rfl (WL1.give rfl (g_move rfl (.mk (v := .slice _ _ _) rfl rfl)) ?_)
  (refine WL.want rfl (WL1.callN rfl rfl rfl (.cons (.mk (v := .slice _ _ _) rfl rfl) .nil) (fun w hw => copied_n _ a w (ha.below hw.1) (by omega) ba) ?_); rintro _ _ ⟨A1, c1, r1, rfl, rfl, hr1, hl1⟩)
  refine WL.want rfl (WL1.give rfl (g_move rfl (.mk (v := .slice _ _ _) rfl rfl)) ?_)
  (refine WL.want rfl (WL1.callN rfl rfl rfl (.cons (.mk (v := .slice _ _ _) rfl rfl) .nil) (fun w hw => copied_n _ b w (hb.below hw.1) (by omega) bb) ?_); rintro _ _ ⟨A2, c2, r2, rfl, rfl, hr2, hl2⟩)
  refine WL.want rfl (WL1.give rfl (g_assign rfl (.mk (v := .slice _ _ _) rfl rfl)) ?_)
  refine WL.want rfl (WL1.give rfl (g_assign rfl (.mk (v := .slice _ _ _) rfl rfl)) ?_)
  refine WL.nil ?_
  (refine hK _ _ ?_; clear hK)
  (refine WC.seq ?_; intro K hK)
  refine WC.region rfl ?_
  refine WL.want rfl (WL1.give rfl (g_move rfl (.mk (v := .slice _ _ _) rfl rfl)) ?_)
  refine WL.want rfl (WL1.give rfl (g_move rfl (.mk (v := .slice _ _ _) rfl rfl)) ?_)
  refine WL.want rfl (WL1.callP rfl rfl rfl (.cons (.mk (v := .slice _ _ _) rfl rfl) (.cons (.mk (v := .slice _ _ _) rfl rfl) .nil)) (fun w hw => mul_bad _ _ r1 r2 w (MatAt.of_rowsA hw (by repeat (first | exact .head _ | apply List.Mem.tail)) (by repeat (first | exact .head _ | apply List.Mem.tail))) (MatAt.of_rowsA hw (by repeat (first | exact .head _ | apply List.Mem.tail)) (by repeat (first | exact .head _ | apply List.Mem.tail))) (fun q => nm ⟨hr1 ▸ q.1, hr2 ▸ q.2.1, by rw [← el0 hr1 (Good.parts (hr1 ▸ q.1)).1, q.2.2, hl2]⟩)) ?_)
  refine WL.want rfl (WL1.give rfl (g_move rfl (.mk (v := .tuple _) rfl rfl)) ?_)
  refine WL.want rfl (WL1.give rfl (g_extract rfl (.mk rfl rfl) rfl) ?_)
  refine WL.want rfl (WL1.give rfl (g_extract rfl (.mk rfl rfl) rfl) ?_)
  refine WL.want rfl (WL1.give rfl (g_assign rfl (.mk (v := .slice _ _ _) rfl rfl)) ?_)
  refine WL.want rfl (WL1.give rfl (g_assign rfl (.mk (v := .int _ _) rfl rfl)) ?_)
  refine WL.nil ?_
  (refine hK _ _ ?_; clear hK)
  (refine WC.seq ?_; intro K hK)
  refine WC.region rfl ?_
  refine WL.want rfl (WL1.give rfl (g_move rfl (.mk (v := .slice _ _ _) rfl rfl)) ?_)
  refine WL.want rfl (WL1.give rfl (g_move rfl (.mk (v := .slice _ _ _) rfl rfl)) ?_)
  (refine WL.want rfl (WL1.callN rfl rfl rfl (.cons (.mk (v := .slice _ _ _) rfl rfl) (.cons (.mk (v := .slice _ _ _) rfl rfl) .nil)) (fun w hw => apply_n _ _ r1 v w (MatAt.of_rowsA hw (by repeat (first | exact .head _ | apply List.Mem.tail)) (by repeat (first | exact .head _ | apply List.Mem.tail))) (hv.below hw.1) (hr1 ▸ ga) (by rw [el0 hr1 ga.parts.1, hv2])) ?_); rintro _ _ ⟨b4, rfl, rfl⟩)
  refine WL.want rfl (WL1.give rfl (g_move rfl (.mk (v := .tuple _) rfl rfl)) ?_)
  refine WL.want rfl (WL1.give rfl (g_extract rfl (.mk rfl rfl) rfl) ?_)
  refine WL.want rfl (WL1.give rfl (g_extract rfl (.mk rfl rfl) rfl) ?_)
  refine WL.want rfl (WL1.give rfl (g_assign rfl (.mk (v := .slice _ _ _) rfl rfl)) ?_)
  refine WL.want rfl (WL1.give rfl (g_assign rfl (.mk (v := .int _ _) rfl rfl)) ?_)
  refine WL.nil ?_
  (refine hK _ _ ?_; clear hK)
  (refine WC.seq ?_; intro K hK)
  (refine WC.seq ?_; intro K hK)
  refine WC.region rfl ?_
  refine WL.want rfl (WL1.give rfl (g_move rfl (.mk (v := .slice _ _ _) rfl rfl)) ?_)
  refine WL.want rfl (WL1.give rfl (g_move rfl (.mk (v := .slice _ _ _) rfl rfl)) ?_)
  refine WL.want rfl (WL1.callP rfl rfl rfl (.cons (.mk (v := .slice _ _ _) rfl rfl) (.cons (.mk (v := .slice _ _ _) rfl rfl) .nil)) (fun w hw => msame_t _ _ r1 a w (MatAt.of_rowsA hw (by repeat (first | exact .head _ | apply List.Mem.tail)) (by repeat (first | exact .head _ | apply List.Mem.tail))) (ha.below hw.1) hr1) ?_)
  refine WL.want rfl (WL1.give rfl (g_notT rfl (.mk rfl rfl)) ?_)
  refine WL.want rfl (WL1.give rfl (g_move rfl (.mk (v := .bool _) rfl rfl)) ?_)
  refine WL.wantG rfl rfl rfl rfl (WL1.give rfl (g_move rfl (.mk (v := .slice _ _ _) rfl rfl)) ?_)
  refine WL.wantG rfl rfl rfl rfl (WL1.give rfl (g_move rfl (.mk (v := .slice _ _ _) rfl rfl)) ?_)
  refine WL.wantG rfl rfl rfl rfl (WL1.callP rfl rfl rfl (.cons (.mk (v := .slice _ _ _) rfl rfl) (.cons (.mk (v := .slice _ _ _) rfl rfl) .nil)) (fun w hw => msame_t _ _ r2 b w (MatAt.of_rowsA hw (by repeat (first | exact .head _ | apply List.Mem.tail)) (by repeat (first | exact .head _ | apply List.Mem.tail))) (hb.below hw.1) hr2) ?_)
  refine WL.wantG rfl rfl rfl rfl (WL1.give rfl (g_notT rfl (.mk rfl rfl)) ?_)
  refine WL.want rfl (WL1.give rfl (g_pickF rfl (.mk rfl rfl) (.mk (v := .bool _) rfl rfl)) ?_)
  refine WL.nil ?_
  (refine hK _ _ ?_; clear hK)
  refine WC.cond_false (.mk rfl rfl) ?_
  refine WC.skip ?_
  (refine hK _ _ ?_; clear hK)
  (refine WC.seq ?_; intro K hK)
  (refine WC.seq ?_; intro K hK)
  refine WC.region rfl ?_
  refine WL.want rfl (WL1.give rfl (g_move rfl (.mk (v := .slice _ _ _) rfl rfl)) ?_)
  refine WL.want rfl (WL1.callP rfl rfl rfl (.cons (.mk (v := .slice _ _ _) rfl rfl) .nil) (fun w hw => xa w hw.1) ?_)
  refine WL.want rfl (WL1.give rfl (g_notT rfl (.mk rfl rfl)) ?_)
  refine WL.want rfl (WL1.give rfl (g_move rfl (.mk (v := .bool _) rfl rfl)) ?_)
  refine WL.wantG rfl rfl rfl rfl (WL1.give rfl (g_move rfl (.mk (v := .slice _ _ _) rfl rfl)) ?_)
  refine WL.wantG rfl rfl rfl rfl (WL1.give rfl (g_len rfl (.mk rfl rfl) rfl) ?_)
  refine WL.wantG rfl rfl rfl rfl (WL1.give rfl (g_move rfl (.mk (v := .slice _ _ _) rfl rfl)) ?_)
  refine WL.wantG rfl rfl rfl rfl (WL1.give rfl (g_indexAddr (sz := 1) rfl (.mk rfl rfl) (.mk rfl rfl) rfl rfl (show _ = ((0 : Nat) : Int) from rfl) (by omega) (fun _ _ => sl_some hs (by omega))) ?_)
  refine WL.wantG rfl rfl rfl rfl (WL1.give rfl (g_load rfl (.mk rfl rfl) rfl (rd_sl hs (get1 (by omega)))) ?_)
  refine WL.wantG rfl rfl rfl rfl (WL1.give rfl (g_len rfl (.mk rfl rfl) rfl) ?_)
  refine WL.wantG rfl rfl rfl rfl (WL1.give rfl (g_ne rfl (.mk rfl rfl) (.mk rfl rfl) (decide_eq_false (by omega))) ?_)
  refine WL.want rfl (WL1.give rfl (g_pickF rfl (.mk rfl rfl) (.mk (v := .bool _) rfl rfl)) ?_)
  refine WL.nil ?_
  (refine hK _ _ ?_; clear hK)
  refine WC.cond_false (.mk rfl rfl) ?_
  (refine WC.seq ?_; intro K hK)
  refine WC.region rfl ?_
  refine WL.want rfl (WL1.give rfl (g_move rfl (.mk (v := .int _ _) rfl rfl)) ?_)
  refine WL.want rfl (WL1.give rfl (g_ne rfl (.mk rfl rfl) (.mk rfl rfl) (decide_eq_false (by omega))) ?_)
  refine WL.want rfl (WL1.give rfl (g_move rfl (.mk (v := .bool _) rfl rfl)) ?_)
  refine WL.wantG rfl rfl rfl rfl (WL1.give rfl (g_move rfl (.mk (v := .slice _ _ _) rfl rfl)) ?_)
  refine WL.wantG rfl rfl rfl rfl (WL1.give rfl (g_move rfl (.mk (v := .slice _ _ _) rfl rfl)) ?_)
  refine WL.wantG rfl rfl rfl rfl (WL1.give rfl (g_move rfl (.mk (v := .slice _ _ _) rfl rfl)) ?_)
  (refine WL.wantG rfl rfl rfl rfl (WL1.callN rfl rfl rfl (.cons (.mk (v := .slice _ _ _) rfl rfl) (.cons (.mk (v := .slice _ _ _) rfl rfl) .nil)) (fun w hw => rapply_n _ _ a v w (ha.below hw.1) (hv.below hw.1) (fun i hi => by rw [ga.row hi, hv2]) (by omega) (by omega)) ?_); rintro _ _ ⟨O, oc, rfl, rfl⟩)
  refine WL.wantG rfl rfl rfl rfl (WL1.callP rfl rfl rfl (.cons (.mk (v := .slice _ _ _) rfl rfl) (.cons (.mk (v := .slice _ _ _) rfl rfl) .nil)) (fun w hw => bsame_t (n := a.length) (by rw [← hl1]; exact Sl.of_vec hw (by repeat (first | exact .head _ | apply List.Mem.tail))) (Sl.of_vec hw (by repeat (first | exact .head _ | apply List.Mem.tail))) (by rw [ap_len, els_len, hl1]) (by rw [hr1])) ?_)
  refine WL.wantG rfl rfl rfl rfl (WL1.give rfl (g_notT rfl (.mk rfl rfl)) ?_)
  refine WL.want rfl (WL1.give rfl (g_pickF rfl (.mk rfl rfl) (.mk (v := .bool _) rfl rfl)) ?_)
  refine WL.nil ?_
  (refine hK _ _ ?_; clear hK)
  refine WC.cond_false (.mk rfl rfl) ?_
  refine WC.skip ?_
  (refine hK _ _ ?_; clear hK)
  (refine WC.seq ?_; intro K hK)
  (refine WC.seq ?_; intro K hK)
  refine WC.region rfl ?_
  refine WL.want rfl (WL1.give rfl (g_move rfl (.mk (v := .slice _ _ _) rfl rfl)) ?_)
  refine WL.want rfl (WL1.callP rfl rfl rfl (.cons (.mk (v := .slice _ _ _) rfl rfl) .nil) (fun w hw => xa w hw.1) ?_)
  refine WL.want rfl (WL1.give rfl (g_notT rfl (.mk rfl rfl)) ?_)
  refine WL.want rfl (WL1.give rfl (g_move rfl (.mk (v := .bool _) rfl rfl)) ?_)
  refine WL.wantG rfl rfl rfl rfl (WL1.give rfl (g_move rfl (.mk (v := .slice _ _ _) rfl rfl)) ?_)
  refine WL.wantG rfl rfl rfl rfl (WL1.callP rfl rfl rfl (.cons (.mk (v := .slice _ _ _) rfl rfl) .nil) (fun w hw => xb w hw.1) ?_)
  refine WL.wantG rfl rfl rfl rfl (WL1.give rfl (g_notT rfl (.mk rfl rfl)) ?_)
  refine WL.want rfl (WL1.give rfl (g_pickF rfl (.mk rfl rfl) (.mk (v := .bool _) rfl rfl)) ?_)
  refine WL.want rfl (WL1.give rfl (g_move rfl (.mk (v := .bool _) rfl rfl)) ?_)
  refine WL.wantG rfl rfl rfl rfl (WL1.give rfl (g_move rfl (.mk (v := .slice _ _ _) rfl rfl)) ?_)
  refine WL.wantG rfl rfl rfl rfl (WL1.give rfl (g_indexAddr (sz := 1) rfl (.mk rfl rfl) (.mk rfl rfl) rfl rfl (show _ = ((0 : Nat) : Int) from rfl) (by omega) (fun _ _ => sl_some hs (by omega))) ?_)
  refine WL.wantG rfl rfl rfl rfl (WL1.give rfl (g_load rfl (.mk rfl rfl) rfl (rd_sl hs (get1 (by omega)))) ?_)
  refine WL.wantG rfl rfl rfl rfl (WL1.give rfl (g_len rfl (.mk rfl rfl) rfl) ?_)
  refine WL.wantG rfl rfl rfl rfl (WL1.give rfl (g_move rfl (.mk (v := .slice _ _ _) rfl rfl)) ?_)
  refine WL.wantG rfl rfl rfl rfl (WL1.give rfl (g_len rfl (.mk rfl rfl) rfl) ?_)
  refine WL.wantG rfl rfl rfl rfl (WL1.give rfl (g_ne rfl (.mk rfl rfl) (.mk rfl rfl) (decide_eq_true (by omega))) ?_)
  refine WL.want rfl (WL1.give rfl (g_pickF rfl (.mk rfl rfl) (.mk (v := .bool _) rfl rfl)) ?_)
  refine WL.nil ?_
  (refine hK _ _ ?_; clear hK)
  refine WC.cond_true (.mk rfl rfl) ?_
  (refine WC.seq ?_; intro K hK)
  refine WC.region rfl ?_
  refine WL.want rfl (WL1.give rfl (g_move rfl (.mk (v := .int _ _) rfl rfl)) ?_)
  refine WL.want rfl (WL1.give rfl (g_eq rfl (.mk rfl rfl) (.mk rfl rfl) (decide_eq_true (by omega))) ?_)
  refine WL.want rfl (WL1.give rfl (g_move rfl (.mk (v := .bool _) rfl rfl)) ?_)
  refine WL.wantG rfl rfl rfl rfl (WL1.give rfl (g_move rfl (.mk (v := .slice _ _ _) rfl rfl)) ?_)
  refine WL.wantG rfl rfl rfl rfl (WL1.give rfl (g_len rfl (.mk rfl rfl) rfl) ?_)
  refine WL.wantG rfl rfl rfl rfl (WL1.give rfl (g_eq rfl (.mk rfl rfl) (.mk rfl rfl) (decide_eq_true (by omega))) ?_)
  refine WL.want rfl (WL1.give rfl (g_pickT rfl (.mk rfl rfl) (.mk (v := .bool _) rfl rfl)) ?_)
  refine WL.want rfl (WL1.give rfl (g_assign rfl (.mk (v := .bool _) rfl rfl)) ?_)
  refine WL.nil ?_
  (refine hK _ _ ?_; clear hK)
  refine WC.ret ?_
  exact fun w' hw' => ⟨rfl, hw'.1⟩
set_option maxRecDepth 20000 in
set_option maxHeartbeats 2000000 in
theorem s1G (w : World) (A B X : Option Addr) (c d x : Nat) (a b : List Row) (v : List G) (ha : MatAt w (.slice A a.length c) a) (hb : MatAt w (.slice B b.length d) b) (hv : Sl w 1 (.slice X v.length x) v.length (bvs v)) (h1 : Small8 a) (h2 : Small8 b) (h3 : v.length ≤ 10) (ga : Good (els a)) (hv2 : v.length = (nth a 0).l.length) (gb : Good (els b)) (hm2 : (nth a 0).l.length = b.length) :
    Calls Try.prog 8 #[.slice A a.length c, .slice B b.length d, .slice X v.length x] w fun en w' => en = .returned (.bool true) ∧ Below w.heap.size w w' := by
  have hs := ha.1
  have sa := fun w' hb => small_e _ a w' (ha.below (w' := w') hb)
  have sb := fun w' hc => small_e _ b w' (hb.below (w' := w') hc)
  rw [decide_eq_true h1] at sa
  rw [decide_eq_true h2] at sb
  have al := h1.1
  have bl := h2.1
  have ba : ∀ i, i < a.length → (nth a i).l.length ≤ 1000 := fun i hi => Nat.le_trans (h1.2 i hi) (by omega)
  have bb : ∀ i, i < b.length → (nth b i).l.length ≤ 1000 := fun i hi => Nat.le_trans (h2.2 i hi) (by omega)
  have xa := fun w' hb => rvalid_e _ a w' (ha.below (w' := w') hb)
  have xb := fun w' hc => rvalid_e _ b w' (hb.below (w' := w') hc)
  rw [goodB_iff.2 ga] at xa
  have gp := ga.parts
  rw [goodB_iff.2 gb] at xb
  refine calls_wc (args := [.slice A a.length c, .slice B b.length d, .slice X v.length x]) [6] [] Try.func8 rfl Try.ntmps8 rfl rfl rfl rfl (H.refl w) ?_
  (refine WC.seq ?_; intro K hK)
  refine WC.region rfl ?_
  refine WL.want rfl (WL1.give rfl (g_assign rfl (.mk (v := .bool _) rfl rfl)) ?_)
  refine WL.nil ?_
  (refine hK _ _ ?_; clear hK)
  (refine WC.seq ?_; intro K hK)
  (refine WC.seq ?_; intro K hK)
  refine WC.region rfl ?_
  refine WL.want rfl (WL1.callP rfl rfl rfl .nil (fun w hw => awake_e w) ?_)
  refine WL.want rfl (WL1.give rfl (g_notT rfl (.mk rfl rfl)) ?_)
  refine WL.nil ?_
  (refine hK _ _ ?_; clear hK)
  refine WC.cond_false (.mk rfl rfl) ?_
  refine WC.skip ?_
  (refine hK _ _ ?_; clear hK)
  (refine WC.seq ?_; intro K hK)
  (refine WC.seq ?_; intro K hK)
  refine WC.region rfl ?_
  refine WL.want rfl (WL1.give rfl (g_move rfl (.mk (v := .slice _ _ _) rfl rfl)) ?_)
  refine WL.want rfl (WL1.callP rfl rfl rfl (.cons (.mk (v := .slice _ _ _) rfl rfl) .nil) (fun w hw => sa w hw.1) ?_)
  refine WL.want rfl (WL1.give rfl (g_notT rfl (.mk rfl rfl)) ?_)
  refine WL.want rfl (WL1.give rfl (g_move rfl (.mk (v := .bool _) rfl rfl)) ?_)
  refine WL.wantG rfl rfl rfl rfl (WL1.give rfl (g_move rfl (.mk (v := .slice _ _ _) rfl rfl)) ?_)
  refine WL.wantG rfl rfl rfl rfl (WL1.callP rfl rfl rfl (.cons (.mk (v := .slice _ _ _) rfl rfl) .nil) (fun w hw => sb w hw.1) ?_)
  refine WL.wantG rfl rfl rfl rfl (WL1.give rfl (g_notT rfl (.mk rfl rfl)) ?_)
  refine WL.want rfl (WL1.give rfl (g_pickF rfl (.mk rfl rfl) (.mk (v := .bool _) rfl rfl)) ?_)
  refine WL.want rfl (WL1.give rfl (g_move rfl (.mk (v := .bool _) rfl rfl)) ?_)
  refine WL.wantG rfl rfl rfl rfl (WL1.give rfl (g_move rfl (.mk (v := .slice _ _ _) rfl rfl)) ?_)
  refine WL.wantG rfl rfl rfl rfl (WL1.give rfl (g_len rfl (.mk rfl rfl) rfl) ?_)
  refine WL.wantG rfl rfl rfl rfl (WL1.give rfl (g_gt rfl (.mk rfl rfl) (.mk rfl rfl) (decide_eq_false (by omega))) ?_)
  refine WL.want rfl (WL1.give rfl (g_pickF rfl (.mk rfl rfl) (.mk (v := .bool _) rfl rfl)) ?_)
  refine WL.nil ?_
  (refine hK _ _ ?_; clear hK)
  refine WC.cond_false (.mk rfl rfl) ?_
  refine WC.skip ?_
  (refine hK _ _ ?_; clear hK)
  (refine WC.seq ?_; intro K hK)
  refine WC.region rfl ?_
  refine WL.want rfl (WL1.give rfl (g_move rfl (.mk (v := .slice _ _ _) rfl rfl)) ?_)
  (refine WL.want rfl (WL1.callN rfl rfl rfl (.cons (.mk (v := .slice _ _ _) rfl rfl) .nil) (fun w hw => copied_n _ a w (ha.below hw.1) (by omega) ba) ?_); rintro _ _ ⟨A1, c1, r1, rfl, rfl, hr1, hl1⟩)
  refine WL.want rfl (WL1.give rfl (g_move rfl (.mk (v := .slice _ _ _) rfl rfl)) ?_)
  (refine WL.want rfl (WL1.callN rfl rfl rfl (.cons (.mk (v := .slice _ _ _) rfl rfl) .nil) (fun w hw => copied_n _ b w (hb.below hw.1) (by omega) bb) ?_); rintro _ _ ⟨A2, c2, r2, rfl, rfl, hr2, hl2⟩)
  refine WL.want rfl (WL1.give rfl (g_assign rfl (.mk (v := .slice _ _ _) rfl rfl)) ?_)
  refine WL.want rfl (WL1.give rfl (g_assign rfl (.mk (v := .slice _ _ _) rfl rfl)) ?_)
  refine WL.nil ?_
  (refine hK _ _ ?_; clear hK)
  (refine WC.seq ?_; intro K hK)
  refine WC.region rfl ?_
  refine WL.want rfl (WL1.give rfl (g_move rfl (.mk (v := .slice _ _ _) rfl rfl)) ?_)
  refine WL.want rfl (WL1.give rfl (g_move rfl (.mk (v := .slice _ _ _) rfl rfl)) ?_)
  (refine WL.want rfl (WL1.callN rfl rfl rfl (.cons (.mk (v := .slice _ _ _) rfl rfl) (.cons (.mk (v := .slice _ _ _) rfl rfl) .nil)) (fun w hw => mul_n _ _ r1 r2 w (MatAt.of_rowsA hw (by repeat (first | exact .head _ | apply List.Mem.tail)) (by repeat (first | exact .head _ | apply List.Mem.tail))) (MatAt.of_rowsA hw (by repeat (first | exact .head _ | apply List.Mem.tail)) (by repeat (first | exact .head _ | apply List.Mem.tail))) (hr1 ▸ ga) (hr2 ▸ gb) (by rw [el0 hr1 ga.parts.1, hl2, hm2])) ?_); rintro _ _ ⟨A3, c3, r3, rfl, rfl, hr3, hl3⟩)
  refine WL.want rfl (WL1.give rfl (g_move rfl (.mk (v := .tuple _) rfl rfl)) ?_)
  refine WL.want rfl (WL1.give rfl (g_extract rfl (.mk rfl rfl) rfl) ?_)
  refine WL.want rfl (WL1.give rfl (g_extract rfl (.mk rfl rfl) rfl) ?_)
  refine WL.want rfl (WL1.give rfl (g_assign rfl (.mk (v := .slice _ _ _) rfl rfl)) ?_)
  refine WL.want rfl (WL1.give rfl (g_assign rfl (.mk (v := .int _ _) rfl rfl)) ?_)
  refine WL.nil ?_
  (refine hK _ _ ?_; clear hK)
  (refine WC.seq ?_; intro K hK)
  refine WC.region rfl ?_
  refine WL.want rfl (WL1.give rfl (g_move rfl (.mk (v := .slice _ _ _) rfl rfl)) ?_)
  refine WL.want rfl (WL1.give rfl (g_move rfl (.mk (v := .slice _ _ _) rfl rfl)) ?_)
  (refine WL.want rfl (WL1.callN rfl rfl rfl (.cons (.mk (v := .slice _ _ _) rfl rfl) (.cons (.mk (v := .slice _ _ _) rfl rfl) .nil)) (fun w hw => apply_n _ _ r1 v w (MatAt.of_rowsA hw (by repeat (first | exact .head _ | apply List.Mem.tail)) (by repeat (first | exact .head _ | apply List.Mem.tail))) (hv.below hw.1) (hr1 ▸ ga) (by rw [el0 hr1 ga.parts.1, hv2])) ?_); rintro _ _ ⟨b4, rfl, rfl⟩)
  refine WL.want rfl (WL1.give rfl (g_move rfl (.mk (v := .tuple _) rfl rfl)) ?_)
  refine WL.want rfl (WL1.give rfl (g_extract rfl (.mk rfl rfl) rfl) ?_)
  refine WL.want rfl (WL1.give rfl (g_extract rfl (.mk rfl rfl) rfl) ?_)
  refine WL.want rfl (WL1.give rfl (g_assign rfl (.mk (v := .slice _ _ _) rfl rfl)) ?_)
  refine WL.want rfl (WL1.give rfl (g_assign rfl (.mk (v := .int _ _) rfl rfl)) ?_)
  refine WL.nil ?_
  (refine hK _ _ ?_; clear hK)
  (refine WC.seq ?_; intro K hK)
  (refine WC.seq ?_; intro K hK)
  refine WC.region rfl ?_
  refine WL.want rfl (WL1.give rfl (g_move rfl (.mk (v := .slice _ _ _) rfl rfl)) ?_)
  refine WL.want rfl (WL1.give rfl (g_move rfl (.mk (v := .slice _ _ _) rfl rfl)) ?_)
  refine WL.want rfl (WL1.callP rfl rfl rfl (.cons (.mk (v := .slice _ _ _) rfl rfl) (.cons (.mk (v := .slice _ _ _) rfl rfl) .nil)) (fun w hw => msame_t _ _ r1 a w (MatAt.of_rowsA hw (by repeat (first | exact .head _ | apply List.Mem.tail)) (by repeat (first | exact .head _ | apply List.Mem.tail))) (ha.below hw.1) hr1) ?_)
  refine WL.want rfl (WL1.give rfl (g_notT rfl (.mk rfl rfl)) ?_)
  refine WL.want rfl (WL1.give rfl (g_move rfl (.mk (v := .bool _) rfl rfl)) ?_)
  refine WL.wantG rfl rfl rfl rfl (WL1.give rfl (g_move rfl (.mk (v := .slice _ _ _) rfl rfl)) ?_)
  refine WL.wantG rfl rfl rfl rfl (WL1.give rfl (g_move rfl (.mk (v := .slice _ _ _) rfl rfl)) ?_)
  refine WL.wantG rfl rfl rfl rfl (WL1.callP rfl rfl rfl (.cons (.mk (v := .slice _ _ _) rfl rfl) (.cons (.mk (v := .slice _ _ _) rfl rfl) .nil)) (fun w hw => msame_t _ _ r2 b w (MatAt.of_rowsA hw (by repeat (first | exact .head _ | apply List.Mem.tail)) (by repeat (first | exact .head _ | apply List.Mem.tail))) (hb.below hw.1) hr2) ?_)
  refine WL.wantG rfl rfl rfl rfl (WL1.give rfl (g_notT rfl (.mk rfl rfl)) ?_)
  refine WL.want rfl (WL1.give rfl (g_pickF rfl (.mk rfl rfl) (.mk (v := .bool _) rfl rfl)) ?_)
  refine WL.nil ?_
  (refine hK _ _ ?_; clear hK)
  refine WC.cond_false (.mk rfl rfl) ?_
  refine WC.skip ?_
  (refine hK _ _ ?_; clear hK)
  (refine WC.seq ?_; intro K hK)
  (refine WC.seq ?_; intro K hK)
  refine WC.region rfl ?_
  refine WL.want rfl (WL1.give rfl (g_move rfl (.mk (v := .slice _ _ _) rfl rfl)) ?_)
  refine WL.want rfl (WL1.callP rfl rfl rfl (.cons (.mk (v := .slice _ _ _) rfl rfl) .nil) (fun w hw => xa w hw.1) ?_)
  refine WL.want rfl (WL1.give rfl (g_notT rfl (.mk rfl rfl)) ?_)
  refine WL.want rfl (WL1.give rfl (g_move rfl (.mk (v := .bool _) rfl rfl)) ?_)
  refine WL.wantG rfl rfl rfl rfl (WL1.give rfl (g_move rfl (.mk (v := .slice _ _ _) rfl rfl)) ?_)
  refine WL.wantG rfl rfl rfl rfl (WL1.give rfl (g_len rfl (.mk rfl rfl) rfl) ?_)
  refine WL.wantG rfl rfl rfl rfl (WL1.give rfl (g_move rfl (.mk (v := .slice _ _ _) rfl rfl)) ?_)
  refine WL.wantG rfl rfl rfl rfl (WL1.give rfl (g_indexAddr (sz := 1) rfl (.mk rfl rfl) (.mk rfl rfl) rfl rfl (show _ = ((0 : Nat) : Int) from rfl) (by omega) (fun _ _ => sl_some hs (by omega))) ?_)
  refine WL.wantG rfl rfl rfl rfl (WL1.give rfl (g_load rfl (.mk rfl rfl) rfl (rd_sl hs (get1 (by omega)))) ?_)
  refine WL.wantG rfl rfl rfl rfl (WL1.give rfl (g_len rfl (.mk rfl rfl) rfl) ?_)
  refine WL.wantG rfl rfl rfl rfl (WL1.give rfl (g_ne rfl (.mk rfl rfl) (.mk rfl rfl) (decide_eq_false (by omega))) ?_)
  refine WL.want rfl (WL1.give rfl (g_pickF rfl (.mk rfl rfl) (.mk (v := .bool _) rfl rfl)) ?_)
  refine WL.nil ?_
  (refine hK _ _ ?_; clear hK)
  refine WC.cond_false (.mk rfl rfl) ?_
  (refine WC.seq ?_; intro K hK)
  refine WC.region rfl ?_
  refine WL.want rfl (WL1.give rfl (g_move rfl (.mk (v := .int _ _) rfl rfl)) ?_)
  refine WL.want rfl (WL1.give rfl (g_ne rfl (.mk rfl rfl) (.mk rfl rfl) (decide_eq_false (by omega))) ?_)
  refine WL.want rfl (WL1.give rfl (g_move rfl (.mk (v := .bool _) rfl rfl)) ?_)
  refine WL.wantG rfl rfl rfl rfl (WL1.give rfl (g_move rfl (.mk (v := .slice _ _ _) rfl rfl)) ?_)
  refine WL.wantG rfl rfl rfl rfl (WL1.give rfl (g_move rfl (.mk (v := .slice _ _ _) rfl rfl)) ?_)
  refine WL.wantG rfl rfl rfl rfl (WL1.give rfl (g_move rfl (.mk (v := .slice _ _ _) rfl rfl)) ?_)
  (refine WL.wantG rfl rfl rfl rfl (WL1.callN rfl rfl rfl (.cons (.mk (v := .slice _ _ _) rfl rfl) (.cons (.mk (v := .slice _ _ _) rfl rfl) .nil)) (fun w hw => rapply_n _ _ a v w (ha.below hw.1) (hv.below hw.1) (fun i hi => by rw [ga.row hi, hv2]) (by omega) (by omega)) ?_); rintro _ _ ⟨O, oc, rfl, rfl⟩)
  refine WL.wantG rfl rfl rfl rfl (WL1.callP rfl rfl rfl (.cons (.mk (v := .slice _ _ _) rfl rfl) (.cons (.mk (v := .slice _ _ _) rfl rfl) .nil)) (fun w hw => bsame_t (n := a.length) (by rw [← hl1]; exact Sl.of_vec hw (by repeat (first | exact .head _ | apply List.Mem.tail))) (Sl.of_vec hw (by repeat (first | exact .head _ | apply List.Mem.tail))) (by rw [ap_len, els_len, hl1]) (by rw [hr1])) ?_)
  refine WL.wantG rfl rfl rfl rfl (WL1.give rfl (g_notT rfl (.mk rfl rfl)) ?_)
  refine WL.want rfl (WL1.give rfl (g_pickF rfl (.mk rfl rfl) (.mk (v := .bool _) rfl rfl)) ?_)
  refine WL.nil ?_
  (refine hK _ _ ?_; clear hK)
  refine WC.cond_false (.mk rfl rfl) ?_
  refine WC.skip ?_
  (refine hK _ _ ?_; clear hK)
  (refine WC.seq ?_; intro K hK)
  (refine WC.seq ?_; intro K hK)
  refine WC.region rfl ?_
  refine WL.want rfl (WL1.give rfl (g_move rfl (.mk (v := .slice _ _ _) rfl rfl)) ?_)
  refine WL.want rfl (WL1.callP rfl rfl rfl (.cons (.mk (v := .slice _ _ _) rfl rfl) .nil) (fun w hw => xa w hw.1) ?_)
  refine WL.want rfl (WL1.give rfl (g_notT rfl (.mk rfl rfl)) ?_)
  refine WL.want rfl (WL1.give rfl (g_move rfl (.mk (v := .bool _) rfl rfl)) ?_)
  refine WL.wantG rfl rfl rfl rfl (WL1.give rfl (g_move rfl (.mk (v := .slice _ _ _) rfl rfl)) ?_)
  refine WL.wantG rfl rfl rfl rfl (WL1.callP rfl rfl rfl (.cons (.mk (v := .slice _ _ _) rfl rfl) .nil) (fun w hw => xb w hw.1) ?_)
  refine WL.wantG rfl rfl rfl rfl (WL1.give rfl (g_notT rfl (.mk rfl rfl)) ?_)
  refine WL.want rfl (WL1.give rfl (g_pickF rfl (.mk rfl rfl) (.mk (v := .bool _) rfl rfl)) ?_)
  refine WL.want rfl (WL1.give rfl (g_move rfl (.mk (v := .bool _) rfl rfl)) ?_)
  refine WL.wantG rfl rfl rfl rfl (WL1.give rfl (g_move rfl (.mk (v := .slice _ _ _) rfl rfl)) ?_)
  refine WL.wantG rfl rfl rfl rfl (WL1.give rfl (g_indexAddr (sz := 1) rfl (.mk rfl rfl) (.mk rfl rfl) rfl rfl (show _ = ((0 : Nat) : Int) from rfl) (by omega) (fun _ _ => sl_some hs (by omega))) ?_)
  refine WL.wantG rfl rfl rfl rfl (WL1.give rfl (g_load rfl (.mk rfl rfl) rfl (rd_sl hs (get1 (by omega)))) ?_)
  refine WL.wantG rfl rfl rfl rfl (WL1.give rfl (g_len rfl (.mk rfl rfl) rfl) ?_)
  refine WL.wantG rfl rfl rfl rfl (WL1.give rfl (g_move rfl (.mk (v := .slice _ _ _) rfl rfl)) ?_)
  refine WL.wantG rfl rfl rfl rfl (WL1.give rfl (g_len rfl (.mk rfl rfl) rfl) ?_)
  refine WL.wantG rfl rfl rfl rfl (WL1.give rfl (g_ne rfl (.mk rfl rfl) (.mk rfl rfl) (decide_eq_false (by omega))) ?_)
  refine WL.want rfl (WL1.give rfl (g_pickF rfl (.mk rfl rfl) (.mk (v := .bool _) rfl rfl)) ?_)
  refine WL.nil ?_
  (refine hK _ _ ?_; clear hK)
  refine WC.cond_false (.mk rfl rfl) ?_
  refine WC.skip ?_
  (refine hK _ _ ?_; clear hK)
  (refine WC.seq ?_; intro K hK)
  refine WC.region rfl ?_
  refine WL.want rfl (WL1.give rfl (g_move rfl (.mk (v := .int _ _) rfl rfl)) ?_)
  refine WL.want rfl (WL1.give rfl (g_eq rfl (.mk rfl rfl) (.mk rfl rfl) (decide_eq_true (by omega))) ?_)
  refine WL.want rfl (WL1.give rfl (g_move rfl (.mk (v := .bool _) rfl rfl)) ?_)
  refine WL.wantG rfl rfl rfl rfl (WL1.give rfl (g_move rfl (.mk (v := .slice _ _ _) rfl rfl)) ?_)
  refine WL.wantG rfl rfl rfl rfl (WL1.give rfl (g_move rfl (.mk (v := .slice _ _ _) rfl rfl)) ?_)
  refine WL.wantG rfl rfl rfl rfl (WL1.give rfl (g_move rfl (.mk (v := .slice _ _ _) rfl rfl)) ?_)
  (refine WL.wantG rfl rfl rfl rfl (WL1.callN rfl rfl rfl (.cons (.mk (v := .slice _ _ _) rfl rfl) (.cons (.mk (v := .slice _ _ _) rfl rfl) .nil)) (fun w hw => rmul_n _ _ a b (nth b 0).l.length w (ha.below hw.1) (hb.below hw.1) (fun i hi => by rw [ga.row hi, hm2]) (fun i hi => gb.row hi) (by omega) gb.parts.1 (by omega) (by have := gb.parts; omega)) ?_); rintro _ _ ⟨A5, c5, r5, rfl, rfl, hr5, hl5⟩)
  refine WL.wantG rfl rfl rfl rfl (WL1.callP rfl rfl rfl (.cons (.mk (v := .slice _ _ _) rfl rfl) (.cons (.mk (v := .slice _ _ _) rfl rfl) .nil)) (fun w hw => msame_t _ _ r3 r5 w (MatAt.of_rowsA hw (by repeat (first | exact .head _ | apply List.Mem.tail)) (by repeat (first | exact .head _ | apply List.Mem.tail))) (MatAt.of_rowsA hw (by repeat (first | exact .head _ | apply List.Mem.tail)) (by repeat (first | exact .head _ | apply List.Mem.tail))) (by rw [hr3, hr5, hr1, hr2])) ?_)
  refine WL.want rfl (WL1.give rfl (g_pickT rfl (.mk rfl rfl) (.mk (v := .bool _) rfl rfl)) ?_)
  refine WL.want rfl (WL1.give rfl (g_assign rfl (.mk (v := .bool _) rfl rfl)) ?_)
  refine WL.nil ?_
  (refine hK _ _ ?_; clear hK)
  refine WC.ret ?_
  exact fun w' hw' => ⟨rfl, hw'.1⟩
theorem walk (w : World) (va : Value) (a : List Row) (ha : MatAt w va a) (vb : Value) (b : List Row) (hb : MatAt w vb b) (vv : Value) (v : List G) (hv : Sl w 1 vv v.length (bvs v)) :
    Calls Try.prog 8 #[va, vb, vv] w fun en w' => en = .returned (.bool true) ∧ Below w.heap.size w w' := by
  by_cases h : Small8 a ∧ Small8 b ∧ v.length ≤ 10
  · obtain ⟨h1, h2, h3⟩ := h
    obtain ⟨A, c, rfl, -, -, -⟩ := ha.1.open_
    obtain ⟨B, d, rfl, -, -, -⟩ := hb.1.open_
    obtain ⟨X, x, rfl, -, -, -⟩ := hv.open_
    by_cases ga : Good (els a)
    · by_cases hv2 : v.length = (nth a 0).l.length <;> by_cases gb : Good (els b) <;> by_cases hm2 : (nth a 0).l.length = b.length
      · exact s1G w A B X c d x a b v ha hb hv h1 h2 h3 ga hv2 gb hm2
      · exact s1D w A B X c d x a b v ha hb hv h1 h2 h3 ga hv2 gb hm2
      · exact s1N w A B X c d x a b v ha hb hv h1 h2 h3 ga hv2 gb
      · exact s1N w A B X c d x a b v ha hb hv h1 h2 h3 ga hv2 gb
      · exact s0G w A B X c d x a b v ha hb hv h1 h2 h3 ga hv2 gb hm2
      · exact s0D w A B X c d x a b v ha hb hv h1 h2 h3 ga hv2 gb hm2
      · exact s0N w A B X c d x a b v ha hb hv h1 h2 h3 ga hv2 gb
      · exact s0N w A B X c d x a b v ha hb hv h1 h2 h3 ga hv2 gb
    · exact sNa w A B X c d x a b v ha hb hv h1 h2 h3 ga
  · exact big w va vb vv a b v ha hb hv h

set_option maxRecDepth 100000 in
theorem lifted (os : Os) (started : os.Started) (H : Type) (enc : TypeId × Value → H) :
    ReturnsInHanded {} Try.checked os 8 .any (Rows.gfmatrixProductsSpec.pre6 enc Try.prog Try.f8 Rows.gfmatrixProductsRow.domain false) (Rows.gfmatrixProductsSpec.post enc Try.prog Try.f8 false true false false) := by
  refine returnsInHanded_of_change (C := Try.checked) own started (by kernel_rfl) Try.func8
    (ChangeSpec.witness6 (enc := enc) (C := Try.checked) false ⟨#[], #[.slice none 0 0, .slice none 0 0, .slice none 0 0], []⟩ 8 (by kernel_rfl) (by kernel_rfl) (by kernel_rfl) (by kernel_rfl)) ?_
  intro W base args ds gs before hval0 hW _ _
  have hval : ∀ (j : Nat) t v, Try.f8.params[j]? = some t → args[j]? = some v → Value.okWide Try.prog W .any base t v := hval0
  have hW' := hW
  obtain ⟨p, q, hA0, hV, rfl, hfz, hnd⟩ := hW
  have hA : DataW.TrodAll enc Try.prog W 0 (fun _ => true) true Try.f8.params.toList args.toList ds p := hA0
  rw [Try.params8] at hA hval
  obtain ⟨v0, vs0, d0, ds0, p0, q0, hargs, rfl, rfl, h0, r0⟩ := trodAll_cons hA
  obtain ⟨v1, vs1, d1, ds1, p1, q1, rfl, rfl, rfl, h1, r1⟩ := trodAll_cons r0
  obtain ⟨v2, vs2, d2, ds2, p2, q2, rfl, rfl, rfl, h2, r2⟩ := trodAll_cons r1
  obtain ⟨rfl, rfl, rfl⟩ := trodAll_nil r2
  obtain rfl : args = #[v0, v1, v2] := by cases args; simp_all
  obtain ⟨a, am⟩ := open_mat (hval 0 22 v0 rfl rfl) h0
  obtain ⟨b, bm⟩ := open_mat (hval 1 22 v1 rfl rfl) h1
  obtain ⟨v, vsl⟩ := open_bys (hval 2 28 v2 rfl rfl) h2
  refine (walk (w := W) v0 a am v1 b bm v2 v vsl).mono fun e W' ⟨he, hb⟩ => ?_
  subst he
  exact ⟨_, rfl, law_post laidOut (by kernel_rfl) rfl rfl Try.underlying4 (fun ds h => by match ds, h with | [_, _, _], _ => rfl) hW' hb⟩

theorem proved : Rows.GfmatrixProductsSaid :=
  OpenClaim.holds_of_wide 8 Try.f8 rfl rfl rfl rfl rfl rfl rfl ⟨rfl, rfl, rfl, rfl, rfl⟩ rfl rfl rfl rfl rfl (by kernel_rfl) Try.func8 (by kernel_rfl)
    (of_decide_eq_true (by kernel_rfl)) (by unfold Func.isWrapper; first | (rw [if_pos (by decide +kernel)]; kernel_rfl) | (rw [if_neg (by decide +kernel)]; exact ⟨rfl, rfl⟩))
    (fun os started H enc _ => lifted os started H enc)
end Go.Proofs.Ytlkemgefioiffaa.LGfmatrixProducts
